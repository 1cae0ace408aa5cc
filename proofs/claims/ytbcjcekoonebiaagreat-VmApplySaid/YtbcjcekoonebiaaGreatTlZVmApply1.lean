/- The tree logic, part A: abstract values, what a machine's value has to do with one, and how such facts last. The tree logic, part B: the invariant of a call's memory, and the steps that keep it. The tree logic, part C: states, operations, regions in the text's order, code, contracts. The tree logic, part D: the operations that only compute or read. The tree logic, part E: one function for the operations that only compute or read, and its soundness. The tree logic, part F: the operations that make or write memory. The tree logic, part G: rows of the call's own; calls; contracts. The tree logic, part H: calls and contracts. The tree logic, part I: regions that draw their order: one walk in the text's order serves every order. The tree logic, part J: the rules as they are used, over states that are lists. The tree logic, part K: the rules that a printed walk uses. The tree logic, part L: pure values, calls with them, loops over list states, numbers. Conditions: none. -/
import Derived.Below
import Derived.Deep.Draws
import Derived.Deep.AppendLies
import Derived.Maps.AppendAt
import Derived.OwnWalk
import Derived.Laws.BytesArg
import Derived.Laws.MakeOwn
import Derived.Laws.OwnMore
import Derived.Deep.OwnRows
import Derived.Tactics
import Derived.Lib.ConvBytes
import Derived.Laws.Slices
import Derived.WalkKit
import Derived.KernelRfl
import Derived.RowKit3
import Derived.Deep.LoopGhost
import Derived.Deep.QuietTactic
import Derived.BigQuiet
import Derived.WideLaws
import Derived.Deep.DeepCutAuto
import Derived.Deep.CutBlock
import Derived.Deep.RegionHeld3
import Derived.Laws.Rows
import Derived.Lib.AppendStr
import Derived.ArgAppend
import Derived.Laws.IdiomCopy
import Derived.RowKit
import Derived.Deep.Quiet
set_option linter.unusedVariables false
set_option linter.unusedSimpArgs false
namespace Go.Proofs.YtbcjcekoonebiaaGreat.Tl
open Go Go.RowKit
inductive Tag where
  | ro
  | nil
  | own (id : Nat)
  deriving DecidableEq

inductive MK where
  | hdr
  | view (lo n : Nat) (nn : Bool)
  | cell (off : Nat)
  deriving DecidableEq

inductive AV where
  | undef
  | bool (b : Bool)
  | int (k : IntKind) (n : Int)
  | str (s : ByteArray)
  | nilp
  | ptr (id off : Nat)
  | ep (cells : List AV)
  | sl (tag : Tag) (sz : Nat) (rows : List (List AV))
  | func (f : FuncId) (first caps : List AV)
  | nilf
  | agg (cells : List AV)
  | tup (vs : List AV)
  | mv (id ver : Nat) (k : MK)

inductive AObj where
  | box (ty : TypeId) (cells : List AV)
  | row (e : TypeId) (sz n : Nat)
  | arr (e : TypeId) (sz ver : Nat) (rows : List (List AV))

def blk : Value → Option Nat
  | .pointer (some a) => some a.block
  | .slice (some a) _ _ => some a.block
  | _ => none

structure Cx where
  w0 : World
  ok0 : Nat → Nat → Prop
  H : Nat → Option AObj
  G : Nat → Option Value
  w : World

def Cx.ok (C : Cx) (b j : Nat) : Prop :=
  C.ok0 b j ∧ ∀ id v, C.G id = some v → blk v = some b → ∃ e sz n, C.H id = some (.row e sz n) ∧ j < n * sz

def TagP (C : Cx) (id n : Nat) (v : Value) : Prop :=
  ∃ e sz m, C.H id = some (.row e sz m) ∧ n ≤ m ∧ (n = m → C.G id = some v)

def Mat (g : Value) (sz N : Nat) : MK → Value → Prop
  | .hdr, v => v = g
  | .view lo n nn, v => lo + n ≤ N ∧ ∃ A c, v = .slice A n c ∧ n ≤ c ∧ (n = 0 ∨ ∃ b c', g = .slice (some ⟨b, 0, none⟩) N c' ∧ A = some ⟨b, lo * sz, none⟩) ∧ (A = none → c = 0)
  | .cell off, v => off < N * sz ∧ ∃ b c', g = .slice (some ⟨b, 0, none⟩) N c' ∧ v = .pointer (some ⟨b, off, none⟩)
def Shp : MK → Value → Prop
  | .hdr, v => ∃ A n c, v = .slice A n c
  | .view _ _ nn, v => ∃ A n c, v = .slice A n c ∧ (nn = true → A ≠ none)
  | .cell _, v => ∃ a, v = .pointer (some a)
def ArrP (C : Cx) (id ver : Nat) (k : MK) (v : Value) : Prop :=
  Shp k v ∧ ∃ e sz cur rows, C.H id = some (.arr e sz cur rows) ∧ ver ≤ cur ∧ (ver = cur → ∃ g, C.G id = some g ∧ Mat g sz rows.length k v)

mutual
def Rd (C : Cx) : AV → Value → Prop
  | .undef, _ => True
  | .bool b, v => v = .bool b
  | .int k n, v => v = .int k n
  | .str s, v => v = .string s
  | .nilp, v => v = .pointer none
  | .ptr id off, v => ∃ b, C.G id = some (.pointer (some ⟨b, 0, none⟩)) ∧ v = .pointer (some ⟨b, off, none⟩)
  | .ep cells, v => ∃ b off, v = .pointer (some ⟨b, off, none⟩) ∧ RdC C cells b off
  | .sl tag sz rows, v => ∃ A c, v = .slice A rows.length c ∧ rows.length ≤ c ∧ rows.length ≤ 9223372036854775807 ∧
      (rows = [] ∨ ∃ b off, A = some ⟨b, off, none⟩ ∧ RdR C sz rows b off) ∧
      (match tag with | .ro => True | .nil => v = .slice none 0 0 | .own id => TagP C id rows.length v)
  | .func f first caps, v => ∃ vs us, v = .func (.func f) vs us ∧ RdL C first vs.toList ∧ RdL C caps us.toList
  | .nilf, v => v = .nilFunc
  | .agg cells, v => ∃ vs, v = .agg vs ∧ RdL C cells vs.toList ∧ ∀ u ∈ vs.toList, u.oneCell' = true
  | .tup vs, v => ∃ us, v = .tuple us ∧ RdL C vs us.toList
  | .mv id ver k, v => ArrP C id ver k v
def RdC (C : Cx) : List AV → Nat → Nat → Prop
  | [], _, _ => True
  | x :: xs, b, off => C.ok b off ∧ (∃ u, C.w.cell? ⟨b, off, none⟩ = some u ∧ u.oneCell' = true ∧ Rd C x u) ∧ RdC C xs b (off + 1)
def RdR (C : Cx) (sz : Nat) : List (List AV) → Nat → Nat → Prop
  | [], _, _ => True
  | r :: rs, b, off => r.length = sz ∧ RdC C r b off ∧ RdR C sz rs b (off + sz)
def RdL (C : Cx) : List AV → List Value → Prop
  | [], [] => True
  | x :: xs, v :: vs => Rd C x v ∧ RdL C xs vs
  | _, _ => False
end

mutual
def inA (S : Nat → Bool) : AV → Bool
  | .ptr id _ => S id
  | .mv id _ _ => S id
  | .sl tag _ rows => (match tag with | .own id => S id | _ => true) && inR S rows
  | .ep cells => inL S cells
  | .func _ first caps => inL S first && inL S caps
  | .agg cells => inL S cells
  | .tup vs => inL S vs
  | _ => true
def inL (S : Nat → Bool) : List AV → Bool
  | [] => true
  | x :: xs => inA S x && inL S xs
def inR (S : Nat → Bool) : List (List AV) → Bool
  | [] => true
  | r :: rs => inL S r && inR S rs
end
abbrev pureA : AV → Bool := inA (fun _ => false)
abbrev pureL : List AV → Bool := inL (fun _ => false)
abbrev pureR : List (List AV) → Bool := inR (fun _ => false)

mutual
def pu : AV → AV
  | .sl tag sz rows => .sl (match tag with | .own _ => .ro | t => t) sz (puR rows)
  | .ep cells => .ep (puL cells)
  | .func f first caps => .func f (puL first) (puL caps)
  | .agg cells => .agg (puL cells)
  | .tup vs => .tup (puL vs)
  | x => x
def puL : List AV → List AV
  | [] => []
  | x :: xs => pu x :: puL xs
def puR : List (List AV) → List (List AV)
  | [] => []
  | r :: rs => puL r :: puR rs
end

theorem puR_length : ∀ rows, (puR rows).length = rows.length
  | [] => rfl
  | r :: rs => by simp [puR, puR_length rs]
theorem puL_length : ∀ l, (puL l).length = l.length
  | [] => rfl
  | r :: rs => by simp [puL, puL_length rs]
theorem puL_map (l : List AV) : puL l = l.map pu := by
  induction l with
  | nil => rfl
  | cons x xs ih => simp [puL, ih]
theorem puR_map (l : List (List AV)) : puR l = l.map (fun r => r.map pu) := by
  induction l with
  | nil => rfl
  | cons x xs ih => simp [puR, puL_map, ih]
theorem inL_all (S : Nat → Bool) (l : List AV) : inL S l = l.all (inA S) := by
  induction l with
  | nil => rfl
  | cons x xs ih => simp [inL, ih]
theorem inR_all (S : Nat → Bool) (l : List (List AV)) : inR S l = l.all (fun r => r.all (inA S)) := by
  induction l with
  | nil => rfl
  | cons x xs ih => simp [inR, inL_all, ih]
mutual
theorem inA_true : ∀ x : AV, inA (fun _ => true) x = true
  | .undef => rfl
  | .bool _ => rfl
  | .int _ _ => rfl
  | .str _ => rfl
  | .nilp => rfl
  | .nilf => rfl
  | .ptr _ _ => rfl
  | .mv _ _ _ => rfl
  | .ep cells => by simp only [inA]; exact inL_true cells
  | .sl tag sz rows => by simp only [inA, inR_true rows, Bool.and_true]; cases tag <;> rfl
  | .func f a b => by simp only [inA, inL_true a, inL_true b, Bool.and_true]
  | .agg cells => by simp only [inA]; exact inL_true cells
  | .tup vs => by simp only [inA]; exact inL_true vs
theorem inL_true : ∀ l : List AV, inL (fun _ => true) l = true
  | [] => rfl
  | x :: xs => by simp only [inL, inA_true x, inL_true xs, Bool.and_true]
theorem inR_true : ∀ l : List (List AV), inR (fun _ => true) l = true
  | [] => rfl
  | x :: xs => by simp only [inR, inL_true x, inR_true xs, Bool.and_true]
end

mutual
theorem Rd.pu {C : Cx} : ∀ (x : AV) (v : Value), Rd C x v → Rd C (Tl.pu x) v
  | .undef, v, h => by simpa [Tl.pu] using h
  | .bool _, v, h => by simpa [Tl.pu] using h
  | .int _ _, v, h => by simpa [Tl.pu] using h
  | .str _, v, h => by simpa [Tl.pu] using h
  | .nilp, v, h => by simpa [Tl.pu] using h
  | .ptr _ _, v, h => by simpa [Tl.pu] using h
  | .mv _ _ _, v, h => by simpa [Tl.pu] using h
  | .nilf, v, h => by simpa [Tl.pu] using h
  | .ep cells, v, h => by
    simp only [Tl.pu, Rd] at h ⊢
    obtain ⟨b, off, e, h⟩ := h
    exact ⟨b, off, e, RdC.pu cells b off h⟩
  | .sl tag sz rows, v, h => by
    simp only [Tl.pu, Rd, puR_length] at h ⊢
    obtain ⟨A, c, e, h1, h2, h3, h4⟩ := h
    refine ⟨A, c, e, h1, h2, ?_, ?_⟩
    · rcases h3 with rfl | ⟨b, off, e2, h3⟩
      · exact .inl rfl
      · exact .inr ⟨b, off, e2, RdR.pu sz rows b off h3⟩
    · cases tag <;> simp_all
  | .func f first caps, v, h => by
    simp only [Tl.pu, Rd] at h ⊢
    obtain ⟨vs, us, e, h1, h2⟩ := h
    exact ⟨vs, us, e, RdL.pu first _ h1, RdL.pu caps _ h2⟩
  | .agg cells, v, h => by
    simp only [Tl.pu, Rd] at h ⊢
    obtain ⟨vs, e, h1, h2⟩ := h
    exact ⟨vs, e, RdL.pu cells _ h1, h2⟩
  | .tup vs, v, h => by
    simp only [Tl.pu, Rd] at h ⊢
    obtain ⟨us, e, h1⟩ := h
    exact ⟨us, e, RdL.pu vs _ h1⟩
theorem RdC.pu {C : Cx} : ∀ (xs : List AV) (b off : Nat), RdC C xs b off → RdC C (puL xs) b off
  | [], _, _, _ => by simp [puL, RdC]
  | x :: xs, b, off, h => by
    simp only [puL, RdC] at h ⊢
    obtain ⟨h1, ⟨u, h2, h3, h4⟩, h5⟩ := h
    exact ⟨h1, ⟨u, h2, h3, Rd.pu x u h4⟩, RdC.pu xs b (off + 1) h5⟩
theorem RdR.pu {C : Cx} (sz : Nat) : ∀ (rs : List (List AV)) (b off : Nat), RdR C sz rs b off → RdR C sz (puR rs) b off
  | [], _, _, _ => by simp [puR, RdR]
  | r :: rs, b, off, h => by
    simp only [puR, RdR, puL_length] at h ⊢
    exact ⟨h.1, RdC.pu r b off h.2.1, RdR.pu sz rs b (off + sz) h.2.2⟩
theorem RdL.pu {C : Cx} : ∀ (xs : List AV) (vs : List Value), RdL C xs vs → RdL C (puL xs) vs
  | [], [], _ => by simp [puL, RdL]
  | [], _ :: _, h => by simp [RdL] at h
  | _ :: _, [], h => by simp [RdL] at h
  | x :: xs, v :: vs, h => by
    simp only [puL, RdL] at h ⊢
    exact ⟨Rd.pu x v h.1, RdL.pu xs vs h.2⟩
end

structure Le (C C' : Cx) : Prop where
  ok : ∀ b j u, C.ok b j → C.w.cell? ⟨b, j, none⟩ = some u → C'.ok b j ∧ C'.w.cell? ⟨b, j, none⟩ = some u
  ptr : ∀ id b, C.G id = some (.pointer (some ⟨b, 0, none⟩)) → C'.G id = some (.pointer (some ⟨b, 0, none⟩))
  tag : ∀ id n v, TagP C id n v → TagP C' id n v
  arr : ∀ id ver k v, ArrP C id ver k v → ArrP C' id ver k v
  size : C.w.heap.size ≤ C'.w.heap.size
  blks : ∀ b, b < C.w.heap.size → (∀ id v, C.G id = some v → blk v ≠ some b) → C'.w.heap[b]? = C.w.heap[b]? ∧ ∀ id v, C'.G id = some v → blk v ≠ some b

structure LeS (S : Nat → Bool) (C C' : Cx) : Prop where
  ok : ∀ b j u, C.ok b j → C.w.cell? ⟨b, j, none⟩ = some u → C'.ok b j ∧ C'.w.cell? ⟨b, j, none⟩ = some u
  ptr : ∀ id, S id = true → ∀ b, C.G id = some (.pointer (some ⟨b, 0, none⟩)) → C'.G id = some (.pointer (some ⟨b, 0, none⟩))
  tag : ∀ id, S id = true → ∀ n v, TagP C id n v → TagP C' id n v
  arr : ∀ id, S id = true → ∀ ver k v, ArrP C id ver k v → ArrP C' id ver k v
  size : C.w.heap.size ≤ C'.w.heap.size
  blks : ∀ b, b < C.w.heap.size → (∀ id v, C.G id = some v → blk v ≠ some b) → C'.w.heap[b]? = C.w.heap[b]? ∧ ∀ id v, C'.G id = some v → blk v ≠ some b
theorem Le.leS {C C' : Cx} (l : Le C C') (S : Nat → Bool) : LeS S C C' := ⟨l.ok, fun id _ => l.ptr id, fun id _ => l.tag id, fun id _ => l.arr id, l.size, l.blks⟩
theorem LeS.refl (S : Nat → Bool) (C : Cx) : LeS S C C := ⟨fun _ _ _ h1 h2 => ⟨h1, h2⟩, fun _ _ _ h => h, fun _ _ _ _ h => h, fun _ _ _ _ _ h => h, Nat.le_refl _, fun _ _ h => ⟨rfl, h⟩⟩
theorem LeS.trans {S : Nat → Bool} {A B C : Cx} (h : LeS S A B) (k : LeS S B C) : LeS S A C :=
  ⟨fun b j u h1 h2 => let ⟨a1, a2⟩ := h.ok b j u h1 h2; k.ok b j u a1 a2, fun id q b e => k.ptr id q b (h.ptr id q b e), fun id q n v e => k.tag id q n v (h.tag id q n v e), fun id q n z v e => k.arr id q n z v (h.arr id q n z v e), Nat.le_trans h.size k.size,
    fun b hb hn => let ⟨a1, a2⟩ := h.blks b hb hn; let ⟨b1, b2⟩ := k.blks b (Nat.lt_of_lt_of_le hb h.size) a2; ⟨b1.trans a1, b2⟩⟩

structure Le0 (C C' : Cx) (S : Nat → Bool) : Prop where
  ok : ∀ b j u, C.ok b j → C.w.cell? ⟨b, j, none⟩ = some u → C'.ok b j ∧ C'.w.cell? ⟨b, j, none⟩ = some u
  ptr : ∀ id, S id = true → ∀ b, C.G id = some (.pointer (some ⟨b, 0, none⟩)) → C'.G id = some (.pointer (some ⟨b, 0, none⟩))
  tag : ∀ id, S id = true → ∀ n v, TagP C id n v → TagP C' id n v
  arr : ∀ id, S id = true → ∀ ver k v, ArrP C id ver k v → ArrP C' id ver k v

mutual
theorem Rd.mono {C C' : Cx} {S : Nat → Bool} (l : Le0 C C' S) : ∀ (x : AV) (v : Value), inA S x = true → Rd C x v → Rd C' x v
  | .undef, v, _, h => by simp [Rd]
  | .bool _, v, _, h => by simpa [Rd] using h
  | .int _ _, v, _, h => by simpa [Rd] using h
  | .str _, v, _, h => by simpa [Rd] using h
  | .nilp, v, _, h => by simpa [Rd] using h
  | .nilf, v, _, h => by simpa [Rd] using h
  | .ptr id off, v, hp, h => by
    simp only [Rd, inA] at h hp ⊢
    obtain ⟨b, h1, h2⟩ := h
    exact ⟨b, l.ptr id hp b h1, h2⟩
  | .mv id ver k, v, hp, h => by
    simp only [Rd, inA] at h hp ⊢
    exact l.arr id hp _ _ _ h
  | .ep cells, v, hp, h => by
    simp only [Rd, inA] at h hp ⊢
    obtain ⟨b, off, e, h⟩ := h
    exact ⟨b, off, e, RdC.mono l cells b off hp h⟩
  | .sl tag sz rows, v, hp, h => by
    simp only [Rd, inA, Bool.and_eq_true] at h hp ⊢
    obtain ⟨A, c, e, h1, h2, h3, h4⟩ := h
    refine ⟨A, c, e, h1, h2, ?_, ?_⟩
    · rcases h3 with rfl | ⟨b, off, e2, h3⟩
      · exact .inl rfl
      · exact .inr ⟨b, off, e2, RdR.mono l sz rows b off hp.2 h3⟩
    · cases tag with
      | ro => trivial
      | nil => exact h4
      | own id => exact l.tag id hp.1 _ _ h4
  | .func f first caps, v, hp, h => by
    simp only [Rd, inA, Bool.and_eq_true] at h hp ⊢
    obtain ⟨vs, us, e, h1, h2⟩ := h
    exact ⟨vs, us, e, RdL.mono l first _ hp.1 h1, RdL.mono l caps _ hp.2 h2⟩
  | .agg cells, v, hp, h => by
    simp only [Rd, inA] at h hp ⊢
    obtain ⟨vs, e, h1, h2⟩ := h
    exact ⟨vs, e, RdL.mono l cells _ hp h1, h2⟩
  | .tup vs, v, hp, h => by
    simp only [Rd, inA] at h hp ⊢
    obtain ⟨us, e, h1⟩ := h
    exact ⟨us, e, RdL.mono l vs _ hp h1⟩
theorem RdC.mono {C C' : Cx} {S : Nat → Bool} (l : Le0 C C' S) : ∀ (xs : List AV) (b off : Nat), inL S xs = true → RdC C xs b off → RdC C' xs b off
  | [], _, _, _, _ => by simp [RdC]
  | x :: xs, b, off, hp, h => by
    simp only [RdC, inL, Bool.and_eq_true] at h hp ⊢
    obtain ⟨h1, ⟨u, h2, h3, h4⟩, h5⟩ := h
    have h6 := l.ok _ _ _ h1 h2
    exact ⟨h6.1, ⟨u, h6.2, h3, Rd.mono l x u hp.1 h4⟩, RdC.mono l xs b (off + 1) hp.2 h5⟩
theorem RdR.mono {C C' : Cx} {S : Nat → Bool} (l : Le0 C C' S) (sz : Nat) : ∀ (rs : List (List AV)) (b off : Nat), inR S rs = true → RdR C sz rs b off → RdR C' sz rs b off
  | [], _, _, _, _ => by simp [RdR]
  | r :: rs, b, off, hp, h => by
    simp only [RdR, inR, Bool.and_eq_true] at h hp ⊢
    exact ⟨h.1, RdC.mono l r b off hp.1 h.2.1, RdR.mono l sz rs b (off + sz) hp.2 h.2.2⟩
theorem RdL.mono {C C' : Cx} {S : Nat → Bool} (l : Le0 C C' S) : ∀ (xs : List AV) (vs : List Value), inL S xs = true → RdL C xs vs → RdL C' xs vs
  | [], [], _, _ => by simp [RdL]
  | [], _ :: _, _, h => by simp [RdL] at h
  | _ :: _, [], _, h => by simp [RdL] at h
  | x :: xs, v :: vs, hp, h => by
    simp only [RdL, inL, Bool.and_eq_true] at h hp ⊢
    exact ⟨Rd.mono l x v hp.1 h.1, RdL.mono l xs vs hp.2 h.2⟩
end
theorem Le.le0 {C C' : Cx} (l : Le C C') : Le0 C C' (fun _ => true) := ⟨l.ok, fun id _ => l.ptr id, fun id _ => l.tag id, fun id _ => l.arr id⟩
theorem Rd.le {C C' : Cx} (l : Le C C') {x : AV} {v : Value} (h : Rd C x v) : Rd C' x v := Rd.mono l.le0 x v (inA_true x) h
theorem RdL.le {C C' : Cx} (l : Le C C') {x : List AV} {v : List Value} (h : RdL C x v) : RdL C' x v := RdL.mono l.le0 x v (inL_true x) h
theorem RdC.le {C C' : Cx} (l : Le C C') {x : List AV} {b off : Nat} (h : RdC C x b off) : RdC C' x b off := RdC.mono l.le0 x b off (inL_true x) h
theorem Le.refl (C : Cx) : Le C C := ⟨fun _ _ _ h1 h2 => ⟨h1, h2⟩, fun _ _ h => h, fun _ _ _ h => h, fun _ _ _ _ h => h, Nat.le_refl _, fun _ _ h => ⟨rfl, h⟩⟩
theorem Le.trans {A B C : Cx} (h : Le A B) (k : Le B C) : Le A C :=
  ⟨fun b j u h1 h2 => let ⟨a1, a2⟩ := h.ok b j u h1 h2; k.ok b j u a1 a2, fun id b e => k.ptr id b (h.ptr id b e), fun id n v e => k.tag id n v (h.tag id n v e), fun id n z v e => k.arr id n z v (h.arr id n z v e), Nat.le_trans h.size k.size, fun b hb hn => let ⟨a1, a2⟩ := h.blks b hb hn; let ⟨b1, b2⟩ := k.blks b (Nat.lt_of_lt_of_le hb h.size) a2; ⟨b1.trans a1, b2⟩⟩

theorem RdL.length {C : Cx} : ∀ {xs : List AV} {vs : List Value}, RdL C xs vs → xs.length = vs.length
  | [], [], _ => rfl
  | [], _ :: _, h => by simp [RdL] at h
  | _ :: _, [], h => by simp [RdL] at h
  | x :: xs, v :: vs, h => by simp only [RdL] at h; simp [RdL.length h.2]
theorem RdL.get {C : Cx} : ∀ {xs : List AV} {vs : List Value}, RdL C xs vs → ∀ {j : Nat} {x : AV}, xs[j]? = some x → ∃ v, vs[j]? = some v ∧ Rd C x v
  | [], _, _, j, x, hj => by simp at hj
  | _ :: _, [], h, _, _, _ => by simp [RdL] at h
  | y :: xs, v :: vs, h, j, x, hj => by
    simp only [RdL] at h
    cases j with
    | zero => simp at hj; subst hj; exact ⟨v, by simp, h.1⟩
    | succ j => simp at hj; obtain ⟨u, h1, h2⟩ := RdL.get h.2 hj; exact ⟨u, by simpa using h1, h2⟩
theorem RdL.append {C : Cx} : ∀ {xs : List AV} {vs : List Value} {ys : List AV} {us : List Value}, RdL C xs vs → RdL C ys us → RdL C (xs ++ ys) (vs ++ us)
  | [], [], _, _, _, k => by simpa using k
  | [], _ :: _, _, _, h, _ => by simp [RdL] at h
  | _ :: _, [], _, _, h, _ => by simp [RdL] at h
  | x :: xs, v :: vs, _, _, h, k => by simp only [RdL, List.cons_append] at h ⊢; exact ⟨h.1, RdL.append h.2 k⟩
theorem RdL.extract {C : Cx} : ∀ {xs : List AV} {vs : List Value} (i n : Nat), RdL C xs vs → RdL C ((xs.drop i).take n) ((vs.drop i).take n)
  | [], [], i, n, _ => by simp [RdL]
  | [], _ :: _, _, _, h => by simp [RdL] at h
  | _ :: _, [], _, _, h => by simp [RdL] at h
  | x :: xs, v :: vs, 0, 0, h => by simp [RdL]
  | x :: xs, v :: vs, 0, n + 1, h => by
    simp only [RdL, List.drop_zero, List.take_succ_cons] at h ⊢
    have := RdL.extract 0 n h.2
    simp only [List.drop_zero] at this
    exact ⟨h.1, this⟩
  | x :: xs, v :: vs, i + 1, n, h => by
    simp only [RdL, List.drop_succ_cons] at h ⊢
    exact RdL.extract i n h.2
theorem RdC.vals {C : Cx} : ∀ {xs : List AV} {b off : Nat}, RdC C xs b off → ∃ vs : List Value, RdL C xs vs ∧ (∀ u ∈ vs, u.oneCell' = true) ∧ ∀ j u, vs[j]? = some u → C.w.cell? ⟨b, off + j, none⟩ = some u
  | [], _, _, _ => ⟨[], by simp [RdL], by simp, by simp⟩
  | x :: xs, b, off, h => by
    simp only [RdC] at h
    obtain ⟨_, ⟨u, h2, h3, h4⟩, h5⟩ := h
    obtain ⟨vs, k1, k2, k3⟩ := RdC.vals h5
    refine ⟨u :: vs, by simp only [RdL]; exact ⟨h4, k1⟩, by simp; exact ⟨h3, k2⟩, fun j y hj => ?_⟩
    cases j with
    | zero => simp at hj; subst hj; exact h2
    | succ j => simp at hj; have := k3 j y hj; rwa [show off + (j + 1) = off + 1 + j by omega]
theorem RdC.mk {C : Cx} : ∀ {xs : List AV} {vs : List Value} {b off : Nat}, RdL C xs vs → (∀ u ∈ vs, u.oneCell' = true) → (∀ j u, vs[j]? = some u → C.w.cell? ⟨b, off + j, none⟩ = some u) → (∀ j, j < vs.length → C.ok b (off + j)) → RdC C xs b off
  | [], _, _, _, _, _, _, _ => by simp [RdC]
  | _ :: _, [], _, _, h, _, _, _ => by simp [RdL] at h
  | x :: xs, v :: vs, b, off, h, h1, h2, h3 => by
    simp only [RdL] at h
    simp only [RdC]
    refine ⟨by simpa using h3 0 (by simp), ⟨v, by simpa using h2 0 v (by simp), h1 v (by simp), h.1⟩, RdC.mk h.2 (fun u hu => h1 u (by simp [hu])) (fun j u hj => ?_) (fun j hj => ?_)⟩
    · rw [show off + 1 + j = off + (j + 1) by omega]; exact h2 (j + 1) u (by simpa using hj)
    · rw [show off + 1 + j = off + (j + 1) by omega]; exact h3 (j + 1) (by simp; omega)
theorem RdC.drop {C : Cx} : ∀ {xs : List AV} {b off : Nat} (k : Nat), RdC C xs b off → RdC C (xs.drop k) b (off + k)
  | [], _, _, _, _ => by simp [RdC]
  | x :: xs, b, off, 0, h => by simpa using h
  | x :: xs, b, off, k + 1, h => by
    simp only [RdC] at h
    have := RdC.drop k h.2.2
    rw [show off + (k + 1) = off + 1 + k by omega]
    simpa using this
theorem RdC.take {C : Cx} : ∀ {xs : List AV} {b off : Nat} (k : Nat), RdC C xs b off → RdC C (xs.take k) b off
  | [], _, _, _, _ => by simp [RdC]
  | x :: xs, b, off, 0, h => by simp [RdC]
  | x :: xs, b, off, k + 1, h => by
    simp only [RdC, List.take_succ_cons] at h ⊢
    exact ⟨h.1, h.2.1, RdC.take k h.2.2⟩
theorem RdC.app {C : Cx} : ∀ {xs ys : List AV} {b off : Nat}, RdC C xs b off → RdC C ys b (off + xs.length) → RdC C (xs ++ ys) b off
  | [], _, _, _, _, h => by simpa using h
  | x :: xs, ys, b, off, h, k => by
    simp only [RdC, List.cons_append] at h ⊢
    refine ⟨h.1, h.2.1, RdC.app h.2.2 ?_⟩
    rw [show off + 1 + xs.length = off + (x :: xs).length by simp; omega]
    exact k
theorem RdR.get {C : Cx} {sz : Nat} : ∀ {rs : List (List AV)} {b off : Nat}, RdR C sz rs b off → ∀ {i : Nat} {r : List AV}, rs[i]? = some r → r.length = sz ∧ RdC C r b (off + i * sz)
  | [], _, _, _, i, r, hi => by simp at hi
  | x :: rs, b, off, h, i, r, hi => by
    simp only [RdR] at h
    cases i with
    | zero => simp at hi; subst hi; simpa using ⟨h.1, h.2.1⟩
    | succ i =>
      simp at hi
      have := RdR.get h.2.2 hi
      refine ⟨this.1, ?_⟩
      rw [show off + (i + 1) * sz = off + sz + i * sz by rw [Nat.add_mul]; omega]
      exact this.2
theorem RdR.flat {C : Cx} {sz : Nat} : ∀ {rs : List (List AV)} {b off : Nat}, RdR C sz rs b off → RdC C rs.flatten b off ∧ rs.flatten.length = rs.length * sz
  | [], _, _, _ => by simp [RdC]
  | x :: rs, b, off, h => by
    simp only [RdR] at h
    obtain ⟨k1, k2⟩ := RdR.flat h.2.2
    constructor
    · simp only [List.flatten_cons]
      exact RdC.app h.2.1 (by rw [h.1]; exact k1)
    · simp [k2, h.1, Nat.add_mul]; omega
theorem RdR.unflat {C : Cx} {sz : Nat} : ∀ {rs : List (List AV)} {b off : Nat}, (∀ r ∈ rs, r.length = sz) → RdC C rs.flatten b off → RdR C sz rs b off
  | [], _, _, _, _ => by simp [RdR]
  | x :: rs, b, off, hl, h => by
    simp only [RdR]
    have hx := hl x (by simp)
    simp only [List.flatten_cons] at h
    refine ⟨hx, ?_, RdR.unflat (fun r hr => hl r (by simp [hr])) ?_⟩
    · have := RdC.take x.length h; simpa using this
    · have := RdC.drop x.length h; rw [hx] at this; simpa [← hx] using this
theorem RdR.drop {C : Cx} {sz : Nat} : ∀ {rs : List (List AV)} {b off : Nat} (k : Nat), k ≤ rs.length → RdR C sz rs b off → RdR C sz (rs.drop k) b (off + k * sz)
  | _, _, _, 0, _, h => by simpa using h
  | [], _, _, k + 1, hk, _ => by simp at hk
  | x :: rs, b, off, k + 1, hk, h => by
    simp only [RdR] at h
    have := RdR.drop k (by simpa using hk) h.2.2
    rw [show off + (k + 1) * sz = off + sz + k * sz by rw [Nat.add_mul]; omega]
    simpa using this
theorem RdR.take {C : Cx} {sz : Nat} : ∀ {rs : List (List AV)} {b off : Nat} (k : Nat), RdR C sz rs b off → RdR C sz (rs.take k) b off
  | [], _, _, _, _ => by simp [RdR]
  | x :: rs, b, off, 0, h => by simp [RdR]
  | x :: rs, b, off, k + 1, h => by
    simp only [RdR, List.take_succ_cons] at h ⊢
    exact ⟨h.1, h.2.1, RdR.take k h.2.2⟩

end Go.Proofs.YtbcjcekoonebiaaGreat.Tl

set_option linter.unusedVariables false
set_option linter.unusedSimpArgs false
namespace Go.Proofs.YtbcjcekoonebiaaGreat.Tl
open Go Go.RowKit
def Held (C : Cx) (v : Value) : AObj → Prop
  | .box t cells => ∃ b cs, v = .pointer (some ⟨b, 0, none⟩) ∧ C.w0.heap.size ≤ b ∧ C.w.heap[b]? = some (.cells cs t (0, 0)) ∧ RdL C cells cs.toList ∧ ∀ u ∈ cs.toList, u.oneCell' = true
  | .row e sz n => 0 < sz ∧ ∃ xs, C.w.ownsRow C.w0.heap.size e sz v n xs
  | .arr e sz _ rows => 0 < sz ∧ (∀ r ∈ rows, r.length = sz) ∧ ∃ xs, C.w.ownsRow C.w0.heap.size e sz v rows.length xs ∧ RdL C rows.flatten xs ∧ ∀ u ∈ xs, u.oneCell' = true

structure Inv (C : Cx) : Prop where
  below : Below C.w0.heap.size C.w0 C.w
  obj : ∀ id v, C.G id = some v → ∃ o, C.H id = some o ∧ Held C v o
  apart : ∀ id id' v v' b, C.G id = some v → C.G id' = some v' → blk v = some b → blk v' = some b → id = id'
  fresh : ∀ b j, C.w.heap.size ≤ b → C.ok0 b j
  okG : ∀ id v b, C.G id = some v → blk v = some b → ∀ j, C.ok0 b j

theorem cell_lt {w : World} {b j : Nat} {u : Value} (h : w.cell? ⟨b, j, none⟩ = some u) : b < w.heap.size := World.block_lt_of_cell? w ⟨b, j, none⟩ h
theorem cell_eq {w w' : World} {b j : Nat} (h : w'.heap[b]? = w.heap[b]?) : w'.cell? ⟨b, j, none⟩ = w.cell? ⟨b, j, none⟩ := World.cell?_of_block (w := w) (a := ⟨b, j, none⟩) h
theorem cell_of {w : World} {b j : Nat} {cs : Array Value} {t : TypeId} {fr : Nat × Nat} (h : w.heap[b]? = some (.cells cs t fr)) : w.cell? ⟨b, j, none⟩ = cs[j]? := by simp [World.cell?, h]

theorem Held.blk {C : Cx} {v : Value} {o : AObj} (h : Held C v o) {b : Nat} (hb : blk v = some b) : C.w0.heap.size ≤ b ∧ b < C.w.heap.size := by
  cases o with
  | box t cells =>
    obtain ⟨b', cs, rfl, h1, h2, _⟩ := h
    simp [Tl.blk] at hb
    subst hb
    exact ⟨h1, (Array.getElem?_eq_some_iff.1 h2).1⟩
  | row e sz n =>
    obtain ⟨_, xs, h⟩ := h
    refine h.lt b ?_
    rcases h.2 with ⟨rfl, _⟩ | ⟨g, cap, cur, rfl, _⟩ <;> simp_all [Tl.blk, Value.ownBlock]
  | arr e sz ver rows =>
    obtain ⟨_, _, xs, h, _, _⟩ := h
    refine h.lt b ?_
    rcases h.2 with ⟨rfl, _⟩ | ⟨g, cap, cur, rfl, _⟩ <;> simp_all [Tl.blk, Value.ownBlock]
theorem own_blk {w : World} {base : Nat} {e : TypeId} {sz : Nat} {v : Value} {n : Nat} {xs : List Value} (h : w.ownsRow base e sz v n xs) (b : Nat) : blk v = some b ↔ v.ownBlock = some b := by
  rcases h.2 with ⟨rfl, _⟩ | ⟨g, cap, cur, rfl, _⟩ <;> simp [Tl.blk, Value.ownBlock]
theorem own_kept {w w' : World} {base : Nat} {e : TypeId} {sz : Nat} {v : Value} {n : Nat} {xs : List Value} (h : w.ownsRow base e sz v n xs) (hk : ∀ b, blk v = some b → w'.heap[b]? = w.heap[b]?) : w'.ownsRow base e sz v n xs := by
  refine ⟨h.1, ?_⟩
  rcases h.2 with h2 | ⟨g, cap, cur, rfl, h3, h4, h5⟩
  · exact .inl h2
  · exact .inr ⟨g, cap, cur, rfl, h3, (hk g rfl).trans h4, h5⟩
theorem Held.kept {C C' : Cx} (hle : Le C C') (h0 : C'.w0 = C.w0) {v : Value} {o : AObj} (h : Held C v o) (hk : ∀ b, Tl.blk v = some b → C'.w.heap[b]? = C.w.heap[b]?) : Held C' v o := by
  cases o with
  | box t cells =>
    obtain ⟨b, cs, rfl, q1, q2, q3, q4⟩ := h
    exact ⟨b, cs, rfl, by rw [h0]; exact q1, (hk b rfl).trans q2, q3.le hle, q4⟩
  | row e sz n =>
    obtain ⟨hz, xs, h⟩ := h
    exact ⟨hz, xs, by rw [h0]; exact own_kept h hk⟩
  | arr e sz ver rows =>
    obtain ⟨hz, hr, xs, h, h2, h3⟩ := h
    exact ⟨hz, hr, xs, by rw [h0]; exact own_kept h hk, h2.le hle, h3⟩

theorem Inv.moved {C : Cx} (hI : Inv C) {w' : World} (hb : Below C.w.heap.size C.w w') : Inv { C with w := w' } ∧ Le C { C with w := w' } := by
  have hle : Le C { C with w := w' } := ⟨fun b j u h1 h2 => ⟨h1, (cell_eq (hb.block b (cell_lt h2))).trans h2⟩, fun _ _ h => h, fun _ _ _ h => h, fun _ _ _ _ h => h, hb.size, fun b hlt hn => ⟨hb.block b hlt, hn⟩⟩
  refine ⟨⟨?_, fun id v hv => ?_, hI.apart, fun b j h => hI.fresh b j (Nat.le_trans hb.size h), hI.okG⟩, hle⟩
  · exact hI.below.trans ⟨hb.os, hb.tape, hb.output, hb.size, fun k hk => hb.block k (Nat.lt_of_lt_of_le hk hI.below.size)⟩
  · obtain ⟨o, h1, h2⟩ := hI.obj id v hv
    exact ⟨o, h1, Held.kept hle rfl h2 fun b q => hb.block b (Held.blk h2 q).2⟩

def upd {β : Type} (f : Nat → Option β) (i : Nat) (x : β) : Nat → Option β := fun j => if j = i then some x else f j
theorem upd_same {β : Type} (f : Nat → Option β) (i : Nat) (x : β) : upd f i x i = some x := by simp [upd]
theorem upd_ne {β : Type} (f : Nat → Option β) {i j : Nat} (x : β) (h : j ≠ i) : upd f i x j = f j := by simp [upd, h]

theorem Inv.new {C : Cx} (hI : Inv C) (id : Nat) (hH : C.H id = none) (cs : Array Value) (t : TypeId) (v : Value) (o : AObj) (hv : blk v = some C.w.heap.size)
    (ho : ∀ C' : Cx, C' = { C with H := upd C.H id o, G := upd C.G id v, w := C.w.alloc (.cells cs t) } → Le C C' → C'.w.heap[C.w.heap.size]? = some (.cells cs t (0, 0)) → C.w0.heap.size ≤ C.w.heap.size → Held C' v o) :
    Inv { C with H := upd C.H id o, G := upd C.G id v, w := C.w.alloc (.cells cs t) } ∧ Le C { C with H := upd C.H id o, G := upd C.G id v, w := C.w.alloc (.cells cs t) } := by
  have hG : C.G id = none := by
    cases h : C.G id with
    | none => rfl
    | some v' => obtain ⟨o', h1, _⟩ := hI.obj id v' h; rw [hH] at h1; cases h1
  have hb : Below C.w.heap.size C.w (C.w.alloc (.cells cs t)) := (Below.refl _ _).alloc (Nat.le_refl _) _
  have hle : Le C { C with H := upd C.H id o, G := upd C.G id v, w := C.w.alloc (.cells cs t) } := by
    refine ⟨fun b j u h1 h2 => ⟨⟨h1.1, fun id' v' h3 h4 => ?_⟩, (cell_eq (hb.block b (cell_lt h2))).trans h2⟩, fun id' b h => ?_, fun id' n v' h => ?_, fun id' n z v' h => ?_, hb.size, fun b hlt hn => ⟨hb.block b hlt, fun id' v' h1 h2 => ?_⟩⟩
    · by_cases e : id' = id
      · subst e
        simp only [upd_same] at h3
        injection h3 with h3
        subst h3
        rw [hv] at h4
        injection h4 with h4
        have := cell_lt h2
        omega
      · simp only [upd_ne _ _ e] at h3 ⊢
        exact h1.2 id' v' h3 h4
    · by_cases e : id' = id
      · subst e; rw [hG] at h; cases h
      · simpa only [upd_ne _ _ e] using h
    · obtain ⟨e, sz, m, h1, h2, h3⟩ := h
      by_cases e' : id' = id
      · subst e'; rw [hH] at h1; cases h1
      · exact ⟨e, sz, m, by simpa only [upd_ne _ _ e'] using h1, h2, fun q => by simpa only [upd_ne _ _ e'] using h3 q⟩
    · obtain ⟨sh, e, sz, m, rs, h1, h2, h3⟩ := h
      by_cases e' : id' = id
      · subst e'; rw [hH] at h1; cases h1
      · exact ⟨sh, e, sz, m, rs, by simpa only [upd_ne _ _ e'] using h1, h2, fun q => by simpa only [upd_ne _ _ e'] using h3 q⟩
    · by_cases e : id' = id
      · subst e
        simp only [upd_same] at h1
        injection h1 with h1
        subst h1
        rw [hv] at h2
        injection h2 with h2
        omega
      · simp only [upd_ne _ _ e] at h1
        exact hn id' v' h1 h2
  refine ⟨⟨?_, fun id' v' hv' => ?_, fun id1 id2 v1 v2 b h1 h2 h3 h4 => ?_, fun b j h => hI.fresh b j (Nat.le_trans hb.size h), fun id' v' b h1 h2 j => ?_⟩, hle⟩
  · exact hI.below.alloc hI.below.size _
  · by_cases e : id' = id
    · subst e
      simp only [upd_same] at hv' ⊢
      injection hv' with hv'
      subst hv'
      exact ⟨o, rfl, ho _ rfl hle (heap_alloc_new C.w _) hI.below.size⟩
    · simp only [upd_ne _ _ e] at hv' ⊢
      obtain ⟨o', k1, k2⟩ := hI.obj id' v' hv'
      exact ⟨o', k1, Held.kept hle rfl k2 fun b q => hb.block b (Held.blk k2 q).2⟩
  · have old : ∀ id' v' b', C.G id' = some v' → blk v' = some b' → b' < C.w.heap.size := fun id' v' b' q1 q2 => by
      obtain ⟨o', _, k2⟩ := hI.obj id' v' q1
      exact (Held.blk k2 q2).2
    by_cases e1 : id1 = id <;> by_cases e2 : id2 = id
    · rw [e1, e2]
    · subst e1
      simp only [upd_same, upd_ne _ _ e2] at h1 h2
      injection h1 with h1
      subst h1
      rw [hv] at h3
      injection h3 with h3
      have := old _ _ _ h2 h4
      omega
    · subst e2
      simp only [upd_same, upd_ne _ _ e1] at h1 h2
      injection h2 with h2
      subst h2
      rw [hv] at h4
      injection h4 with h4
      have := old _ _ _ h1 h3
      omega
    · simp only [upd_ne _ _ e1, upd_ne _ _ e2] at h1 h2
      exact hI.apart id1 id2 v1 v2 b h1 h2 h3 h4
  · by_cases e : id' = id
    · subst e
      simp only [upd_same] at h1
      injection h1 with h1
      subst h1
      rw [hv] at h2
      injection h2 with h2
      exact hI.fresh b j (by omega)
    · simp only [upd_ne _ _ e] at h1
      exact hI.okG id' v' b h1 h2 j

theorem Inv.wrote {C : Cx} (hI : Inv C) {id : Nat} {b : Nat} {t : TypeId} {cells : List AV} (hG : C.G id = some (.pointer (some ⟨b, 0, none⟩))) (hH : C.H id = some (.box t cells)) (cells' : List AV) (cs' : Array Value) (w' : World)
    (hb : w'.heap[b]? = some (.cells cs' t (0, 0))) (hk : ∀ k, k ≠ b → w'.heap[k]? = C.w.heap[k]?) (hs : w'.heap.size = C.w.heap.size) (hos : w'.os = C.w.os) (htp : w'.tape = C.w.tape) (hout : w'.output = C.w.output)
    (hr : RdL C cells' cs'.toList) (h1 : ∀ u ∈ cs'.toList, u.oneCell' = true) :
    Inv { C with H := upd C.H id (.box t cells'), w := w' } ∧ Le C { C with H := upd C.H id (.box t cells'), w := w' } := by
  obtain ⟨o, ho, hheld⟩ := hI.obj id _ hG
  rw [hH] at ho
  injection ho with ho
  subst ho
  obtain ⟨b0, cs0, e0, hge, hcs0, _, _⟩ := hheld
  injection e0 with e0
  injection e0 with e0
  injection e0 with e0 _ _
  subst e0
  have hne : ∀ b' j, C.ok b' j → b' ≠ b := by
    rintro b' j h rfl
    obtain ⟨e, sz, n, q, _⟩ := h.2 id _ hG rfl
    rw [hH] at q
    cases q
  have hle : Le C { C with H := upd C.H id (.box t cells'), w := w' } := by
    refine ⟨fun b' j u k1 k2 => ⟨⟨k1.1, fun id' v' k3 k4 => ?_⟩, (cell_eq (hk b' (hne b' j k1))).trans k2⟩, fun _ _ h => h, fun id' n v h => ?_, fun id' n z v h => ?_, by rw [hs]; exact Nat.le_refl _, fun b' _ hn => ⟨hk b' (fun q => hn id _ hG (by rw [q]; rfl)), hn⟩⟩
    · by_cases e : id' = id
      · subst e
        obtain ⟨e', sz, n, q', _⟩ := k1.2 _ _ k3 k4
        rw [hH] at q'
        cases q'
      · simp only [upd_ne _ _ e]
        exact k1.2 id' v' k3 k4
    · obtain ⟨e, sz, m, q1, q2, q3⟩ := h
      by_cases e' : id' = id
      · subst e'; rw [hH] at q1; cases q1
      · exact ⟨e, sz, m, by simpa only [upd_ne _ _ e'] using q1, q2, q3⟩
    · obtain ⟨sh, e, sz, m, rs, q1, q2, q3⟩ := h
      by_cases e' : id' = id
      · subst e'; rw [hH] at q1; cases q1
      · exact ⟨sh, e, sz, m, rs, by simpa only [upd_ne _ _ e'] using q1, q2, q3⟩
  refine ⟨⟨?_, fun id' v hv => ?_, hI.apart, fun b j h => hI.fresh b j (by rw [← hs]; exact h), hI.okG⟩, hle⟩
  · exact ⟨hos.trans hI.below.os, htp.trans hI.below.tape, hout.trans hI.below.output, by rw [hs]; exact hI.below.size, fun k hk' => (hk k (by have h9 : k < C.w0.heap.size := hk'; omega)).trans (hI.below.block k hk')⟩
  · by_cases e : id' = id
    · subst e
      simp only [upd_same]
      have hv' : C.G id' = some v := hv
      rw [hG] at hv'
      injection hv' with hv'
      subst hv'
      exact ⟨_, rfl, b, cs', rfl, hge, hb, hr.le hle, h1⟩
    · simp only [upd_ne _ _ e]
      obtain ⟨o', k1, k2⟩ := hI.obj id' v hv
      have hnb : ∀ b', blk v = some b' → b' ≠ b := fun b' q q2 => e (hI.apart id' id v _ b' hv hG q (by rw [q2]; rfl))
      exact ⟨o', k1, Held.kept hle rfl k2 fun b2 q => hk b2 (hnb b2 q)⟩

theorem Inv.appended {C : Cx} (hI : Inv C) {id : Nat} {e : TypeId} {sz n m : Nat} {v v2 : Value} (hG : C.G id = some v) (hH : C.H id = some (.row e sz n)) (hm : 0 < m) (w' : World) (xs news : List Value)
    (hx : C.w.ownsRow C.w0.heap.size e sz v n xs) (ho : w'.ownsRow C.w0.heap.size e sz v2 (n + m) (xs ++ news)) (hg : C.w.grownBy w' v.ownBlock) (hat : (v2.ownBlock = v.ownBlock ∧ v.ownBlock ≠ none) ∨ (v2.ownBlock = some C.w.heap.size ∧ Below C.w.heap.size C.w w')) :
    Inv { C with H := upd C.H id (.row e sz (n + m)), G := upd C.G id v2, w := w' } ∧ Le C { C with H := upd C.H id (.row e sz (n + m)), G := upd C.G id v2, w := w' } := by
  obtain ⟨o, ho', hheld⟩ := hI.obj id _ hG
  rw [hH] at ho'
  injection ho' with ho'
  subst ho'
  have hz := hheld.1
  have hnn : xs.length = n * sz := hx.1
  have hob : ∀ (v : Value) (n : Nat) (xs : List Value) (w : World), w.ownsRow C.w0.heap.size e sz v n xs → ∀ b, blk v = some b ↔ v.ownBlock = some b := by
    intro v n xs w h b
    rcases h.2 with ⟨rfl, _⟩ | ⟨g, cap, cur, rfl, _⟩ <;> simp [Tl.blk, Value.ownBlock]
  have oldlt : ∀ id' v' b', C.G id' = some v' → blk v' = some b' → b' < C.w.heap.size := fun id' v' b' q1 q2 => by
    obtain ⟨o', _, k2⟩ := hI.obj id' v' q1
    exact (Held.blk k2 q2).2
  have hle : Le C { C with H := upd C.H id (.row e sz (n + m)), G := upd C.G id v2, w := w' } := by
    refine ⟨fun b j u k1 k2 => ⟨⟨k1.1, fun id' v' k3 k4 => ?_⟩, ?_⟩, fun id' b h => ?_, fun id' k v' h => ?_, fun id' k z v' h => ?_, hg.size, fun b hlt hn => ⟨hg.block b hlt (fun q => hn id v hG ((hob v _ _ _ hx b).2 q.symm)), fun id' v' h1 h2 => ?_⟩⟩
    · by_cases e' : id' = id
      · subst e'
        simp only [upd_same] at k3 ⊢
        injection k3 with k3
        subst k3
        refine ⟨e, sz, n + m, rfl, ?_⟩
        rcases hat with ⟨h1, h2⟩ | ⟨h1, _⟩
        · have hb := (hob v2 _ _ _ ho b).1 k4
          rw [h1] at hb
          obtain ⟨e1, sz1, n1, q1, q2⟩ := k1.2 id' v hG ((hob v _ _ _ hx b).2 hb)
          rw [hH] at q1
          injection q1 with q1
          injection q1 with _ q4 q5
          subst q4 q5
          rw [Nat.add_mul]
          omega
        · have hb := (hob v2 _ _ _ ho b).1 k4
          rw [h1] at hb
          injection hb with hb
          have := cell_lt k2
          omega
      · simp only [upd_ne _ _ e'] at k3 ⊢
        exact k1.2 id' v' k3 k4
    · by_cases hbv : v.ownBlock = some b
      · rcases hat with ⟨h1, h2⟩ | ⟨_, h2⟩
        · obtain ⟨e1, sz1, n1, q1, q2⟩ := k1.2 id v hG ((hob v _ _ _ hx b).2 hbv)
          rw [hH] at q1
          injection q1 with q1
          injection q1 with _ q4 q5
          subst q4 q5
          have a1 : xs[j]? = some (xs[j]'(by omega)) := List.getElem?_eq_getElem (by omega)
          have c1 := hx.cells hbv j _ a1
          have c2 := ho.cells (h1.trans hbv) j (xs[j]'(by omega)) (by rw [List.getElem?_append_left (by omega)]; exact a1)
          have hadd : (⟨b, 0, none⟩ : Addr).add j = ⟨b, j, none⟩ := by unfold Addr.add; split <;> simp_all
          rw [hadd] at c1 c2
          show w'.cell? ⟨b, j, none⟩ = some u
          rw [c2, ← c1]
          exact k2
        · exact (cell_eq (h2.block b (cell_lt k2))).trans k2
      · exact (cell_eq (hg.block b (cell_lt k2) (fun q => hbv q.symm))).trans k2
    · by_cases e' : id' = id
      · subst e'
        rw [hG] at h
        injection h with h
        rcases hx.2 with ⟨rfl, _⟩ | ⟨g, cap, cur, rfl, _⟩ <;> cases h
      · simpa only [upd_ne _ _ e'] using h
    · obtain ⟨e1, sz1, m1, q1, q2, q3⟩ := h
      by_cases e' : id' = id
      · subst e'
        rw [hH] at q1
        injection q1 with q1
        injection q1 with q4 q5 q6
        subst q6
        exact ⟨e, sz, n + m, by simp only [upd_same], by omega, fun q => by omega⟩
      · exact ⟨e1, sz1, m1, by simpa only [upd_ne _ _ e'] using q1, q2, fun q => by simpa only [upd_ne _ _ e'] using q3 q⟩
    · obtain ⟨sh, e1, sz1, m1, rs, q1, q2, q3⟩ := h
      by_cases e' : id' = id
      · subst e'; rw [hH] at q1; cases q1
      · exact ⟨sh, e1, sz1, m1, rs, by simpa only [upd_ne _ _ e'] using q1, q2, fun q => by simpa only [upd_ne _ _ e'] using q3 q⟩
    · by_cases e' : id' = id
      · subst e'
        simp only [upd_same] at h1
        injection h1 with h1
        subst h1
        have h5 := (hob v2 _ _ _ ho b).1 h2
        rcases hat with ⟨h6, _⟩ | ⟨h6, _⟩
        · rw [h6] at h5
          exact hn id' v hG ((hob v _ _ _ hx b).2 h5)
        · rw [h6] at h5
          injection h5 with h5
          omega
      · simp only [upd_ne _ _ e'] at h1
        exact hn id' v' h1 h2
  refine ⟨⟨?_, fun id' v' hv => ?_, fun id1 id2 v1 v3 b h1 h2 h3 h4 => ?_, fun b j h => hI.fresh b j (Nat.le_trans hg.size h), fun id' v' b h1 h2 j => ?_⟩, hle⟩
  · exact hI.below.grown hg hI.below.size (fun k q => (hx.lt k q).1)
  · by_cases e' : id' = id
    · subst e'
      simp only [upd_same] at hv ⊢
      injection hv with hv
      subst hv
      exact ⟨_, rfl, hz, _, ho⟩
    · simp only [upd_ne _ _ e'] at hv ⊢
      obtain ⟨o', k1, k2⟩ := hI.obj id' v' hv
      have hnb : ∀ b', blk v' = some b' → v.ownBlock ≠ some b' := fun b' q q2 => e' (hI.apart id' id v' v b' hv hG q ((hob v _ _ _ hx b').2 q2))
      exact ⟨o', k1, Held.kept hle rfl k2 fun b2 q => hg.block b2 (Held.blk k2 q).2 (fun q2 => hnb b2 q q2.symm)⟩
  · have hnew : ∀ id' v' b', id' ≠ id → C.G id' = some v' → blk v' = some b' → blk v2 = some b' → False := fun id' v' b' q1 q2 q3 q4 => by
      have h5 := (hob v2 _ _ _ ho b').1 q4
      rcases hat with ⟨h6, _⟩ | ⟨h6, _⟩
      · rw [h6] at h5
        exact q1 (hI.apart id' id v' v b' q2 hG q3 ((hob v _ _ _ hx b').2 h5))
      · rw [h6] at h5
        injection h5 with h5
        have := oldlt _ _ _ q2 q3
        omega
    by_cases e1 : id1 = id <;> by_cases e2 : id2 = id
    · rw [e1, e2]
    · subst e1
      simp only [upd_same, upd_ne _ _ e2] at h1 h2
      injection h1 with h1
      subst h1
      exact (hnew id2 v3 b e2 h2 h4 h3).elim
    · subst e2
      simp only [upd_same, upd_ne _ _ e1] at h1 h2
      injection h2 with h2
      subst h2
      exact (hnew id1 v1 b e1 h1 h3 h4).elim
    · simp only [upd_ne _ _ e1, upd_ne _ _ e2] at h1 h2
      exact hI.apart id1 id2 v1 v3 b h1 h2 h3 h4
  · by_cases e' : id' = id
    · subst e'
      simp only [upd_same] at h1
      injection h1 with h1
      subst h1
      have h5 := (hob v2 _ _ _ ho b).1 h2
      rcases hat with ⟨h6, _⟩ | ⟨h6, _⟩
      · rw [h6] at h5
        exact hI.okG id' v b hG ((hob v _ _ _ hx b).2 h5) j
      · rw [h6] at h5
        injection h5 with h5
        exact hI.fresh b j (by omega)
    · simp only [upd_ne _ _ e'] at h1
      exact hI.okG id' v' b h1 h2 j

theorem Inv.arrUp {C : Cx} (hI : Inv C) {id : Nat} {e : TypeId} {sz ver ver' : Nat} {rows rows' : List (List AV)} {v v2 : Value} (hG : C.G id = some v) (hH : C.H id = some (.arr e sz ver rows)) (hv : ver < ver' ∨ (ver = ver' ∧ v2 = v ∧ rows'.length = rows.length)) (w' : World) (xs' : List Value)
    (ho : w'.ownsRow C.w0.heap.size e sz v2 rows'.length xs') (hrl : ∀ r ∈ rows', r.length = sz) (hrd : RdL C rows'.flatten xs') (h1 : ∀ u ∈ xs', u.oneCell' = true) (hg : C.w.grownBy w' v.ownBlock) (hat : v2.ownBlock = v.ownBlock ∨ v2.ownBlock = some C.w.heap.size) :
    Inv { C with H := upd C.H id (.arr e sz ver' rows'), G := upd C.G id v2, w := w' } ∧ Le C { C with H := upd C.H id (.arr e sz ver' rows'), G := upd C.G id v2, w := w' } := by
  obtain ⟨o, ho', hheld⟩ := hI.obj id _ hG
  rw [hH] at ho'
  injection ho' with ho'
  subst ho'
  obtain ⟨hz, _, xs, hx, _, _⟩ := hheld
  have oldlt : ∀ id' v' b', C.G id' = some v' → blk v' = some b' → b' < C.w.heap.size := fun id' v' b' q1 q2 => by
    obtain ⟨o', _, k2⟩ := hI.obj id' v' q1
    exact (Held.blk k2 q2).2
  have hne : ∀ b j, C.ok b j → blk v ≠ some b := by
    intro b j h q
    obtain ⟨e', sz', n', q', _⟩ := h.2 id _ hG q
    rw [hH] at q'
    cases q'
  have hv2 : ∀ b, blk v2 = some b → blk v = some b ∨ b = C.w.heap.size := fun b q => by
    have := (own_blk ho b).1 q
    rcases hat with h | h
    · rw [h] at this; exact .inl ((own_blk hx b).2 this)
    · rw [h] at this; injection this with this; exact .inr this.symm
  have hkeep : ∀ b, b < C.w.heap.size → blk v ≠ some b → w'.heap[b]? = C.w.heap[b]? := fun b hb hn => hg.block b hb (fun q => hn ((own_blk hx b).2 q.symm))
  have hle : Le C { C with H := upd C.H id (.arr e sz ver' rows'), G := upd C.G id v2, w := w' } := by
    refine ⟨fun b j u k1 k2 => ⟨⟨k1.1, fun id' v' k3 k4 => ?_⟩, (cell_eq (hkeep b (cell_lt k2) (hne b j k1))).trans k2⟩, fun id' b h => ?_, fun id' k v' h => ?_, fun id' k z v' h => ?_, hg.size, fun b hlt hn => ⟨hkeep b hlt (hn id v hG), fun id' v' h1 h2 => ?_⟩⟩
    · by_cases e' : id' = id
      · subst e'
        simp only [upd_same] at k3
        injection k3 with k3
        subst k3
        rcases hv2 b k4 with q | q
        · exact absurd q (hne b j k1)
        · have := cell_lt k2; omega
      · simp only [upd_ne _ _ e'] at k3 ⊢
        exact k1.2 id' v' k3 k4
    · by_cases e' : id' = id
      · subst e'
        rw [hG] at h
        injection h with h
        rcases hx.2 with ⟨rfl, _⟩ | ⟨g, cap, cur, rfl, _⟩ <;> cases h
      · simpa only [upd_ne _ _ e'] using h
    · obtain ⟨e1, sz1, m1, q1, q2, q3⟩ := h
      by_cases e' : id' = id
      · subst e'; rw [hH] at q1; cases q1
      · exact ⟨e1, sz1, m1, by simpa only [upd_ne _ _ e'] using q1, q2, fun q => by simpa only [upd_ne _ _ e'] using q3 q⟩
    · obtain ⟨sh, e1, sz1, m1, rs, q1, q2, q3⟩ := h
      by_cases e' : id' = id
      · subst e'
        rw [hH] at q1
        injection q1 with q1
        injection q1 with a1 a2 a3 a4
        subst a1 a2 a3 a4
        rcases hv with hv | ⟨rfl, rfl, hln⟩
        · exact ⟨sh, e, sz, ver', rows', by simp only [upd_same], by omega, fun q => by omega⟩
        · refine ⟨sh, e, sz, ver, rows', by simp only [upd_same], q2, fun q => ?_⟩
          obtain ⟨g, g1, g2⟩ := q3 q
          rw [hG] at g1
          injection g1 with g1
          subst g1
          exact ⟨v2, by simp only [upd_same], by rw [hln]; exact g2⟩
      · exact ⟨sh, e1, sz1, m1, rs, by simpa only [upd_ne _ _ e'] using q1, q2, fun q => by simpa only [upd_ne _ _ e'] using q3 q⟩
    · by_cases e' : id' = id
      · subst e'
        simp only [upd_same] at h1
        injection h1 with h1
        subst h1
        rcases hv2 b h2 with q | q
        · exact hn id' v hG q
        · omega
      · simp only [upd_ne _ _ e'] at h1
        exact hn id' v' h1 h2
  refine ⟨⟨?_, fun id' v' hv' => ?_, fun id1 id2 v1 v3 b h1 h2 h3 h4 => ?_, fun b j h => hI.fresh b j (Nat.le_trans hg.size h), fun id' v' b h1 h2 j => ?_⟩, hle⟩
  · exact hI.below.grown hg hI.below.size (fun k q => (hx.lt k q).1)
  · by_cases e' : id' = id
    · subst e'
      simp only [upd_same] at hv' ⊢
      injection hv' with hv'
      subst hv'
      exact ⟨_, rfl, hz, hrl, xs', ho, hrd.le hle, h1⟩
    · simp only [upd_ne _ _ e'] at hv' ⊢
      obtain ⟨o', k1, k2⟩ := hI.obj id' v' hv'
      exact ⟨o', k1, Held.kept hle rfl k2 fun b2 q => hkeep b2 (Held.blk k2 q).2 (fun q2 => e' (hI.apart id' id v' v b2 hv' hG q q2))⟩
  · have hnew : ∀ id' v' b', id' ≠ id → C.G id' = some v' → blk v' = some b' → blk v2 = some b' → False := fun id' v' b' q1 q2 q3 q4 => by
      rcases hv2 b' q4 with q | q
      · exact q1 (hI.apart id' id v' v b' q2 hG q3 q)
      · have := oldlt _ _ _ q2 q3
        omega
    by_cases e1 : id1 = id <;> by_cases e2 : id2 = id
    · rw [e1, e2]
    · subst e1
      simp only [upd_same, upd_ne _ _ e2] at h1 h2
      injection h1 with h1
      subst h1
      exact (hnew id2 v3 b e2 h2 h4 h3).elim
    · subst e2
      simp only [upd_same, upd_ne _ _ e1] at h1 h2
      injection h2 with h2
      subst h2
      exact (hnew id1 v1 b e1 h1 h3 h4).elim
    · simp only [upd_ne _ _ e1, upd_ne _ _ e2] at h1 h2
      exact hI.apart id1 id2 v1 v3 b h1 h2 h3 h4
  · by_cases e' : id' = id
    · subst e'
      simp only [upd_same] at h1
      injection h1 with h1
      subst h1
      rcases hv2 b h2 with q | q
      · exact hI.okG id' v b hG q j
      · exact hI.fresh b j (by omega)
    · simp only [upd_ne _ _ e'] at h1
      exact hI.okG id' v' b h1 h2 j

theorem run_app {P : Program} (w : World) (base : Nat) (t ty e : TypeId) (i : TypeInfo) (z : Value) (size bytes : Nat) (ht : P.underlying t = some (.slice e)) (hi : P.info? e = some i) (hz : i.zero = some z)
    (hsize : i.size = size) (hby : i.bytes = bytes) (hzs : z.cells.size = size) (hsz : 0 < size)
    (v : Value) (n : Nat) (xs : List Value) (hown : w.ownsRow base e size v n xs)
    (a : Addr) (m c : Nat) (news : List Value) (hl : news.length = m * size) (hnews : ∀ j u, news[j]? = some u → w.cell? (a.add j) = some u) (h1 : ∀ u ∈ news, u.oneCell' = true)
    (hm : 0 < m) (h63 : n + m ≤ maxLen) (hbytes : (n + m) * bytes ≤ 140737488355328) (hbase : base ≤ w.heap.size) :
    ∃ v' w', (Builtin.append_ #[t, t] ty #[v, .slice (some a) m c]).run P w = .ok v' w' ∧ w'.ownsRow base e size v' (n + m) (xs ++ news) ∧ w.grownBy w' v.ownBlock ∧
      ((v'.ownBlock = v.ownBlock ∧ v.ownBlock ≠ none) ∨ (v'.ownBlock = some w.heap.size ∧ Below w.heap.size w w')) := by
  obtain ⟨v', w', hr, h2, h3, h4, h5⟩ := run_append_own_at (P := P) w base t ty e i z size bytes ht hi hz hsize hby hzs hsz v n xs hown a m c news hl hnews h1 h63 hbytes hbase
  refine ⟨v', w', hr, h2, h3, ?_⟩
  subst hsize
  subst hby
  rcases hown.2 with ⟨rfl, rfl⟩ | ⟨g, cap, cur, rfl, hbg, hg, hnc, hcm, hcs, htake⟩
  · right
    have hr2 := run_append_nil (P := P) w t ty e i z ht hi hz a m c news hl hnews (by omega) (by simp only [maxLen] at h63; omega) (by have hb := hbytes; simp only [Nat.zero_add] at hb; omega)
    rw [hr2] at hr
    injection hr with hv hw
    subst hv hw
    exact ⟨rfl, (Below.refl _ _).drew.alloc (Nat.le_refl _) _⟩
  · by_cases hroom : n + m ≤ cap
    · left
      have hfit : n * i.size + news.length ≤ cur.size := by rw [hl, hcs, ← Nat.add_mul]; exact Nat.mul_le_mul_right _ hroom
      have hr2 := run_append_room (P := P) w t ty e i ht hi g n cap cur hg a m c news hl hnews h1 hroom hfit
      rw [hr2] at hr
      injection hr with hv hw
      subst hv
      exact ⟨rfl, by simp [Value.ownBlock]⟩
    · right
      have holds : ∀ j u, xs[j]? = some u → w.cell? ((⟨g, 0, none⟩ : Addr).add j) = some u := hown.cells (g := g) rfl
      have hr2 := run_append_grow (P := P) w t ty e i z ht hi hz ⟨g, 0, none⟩ n cap xs hown.1 holds a m c news hl hnews (by omega) (by simp only [maxLen] at h63; omega) (growslice_fits (by omega) hbytes)
      rw [hr2] at hr
      injection hr with hv hw
      subst hv hw
      exact ⟨rfl, (Below.refl _ _).drew.alloc (Nat.le_refl _) _⟩

end Go.Proofs.YtbcjcekoonebiaaGreat.Tl

set_option linter.unusedVariables false
set_option linter.unusedSimpArgs false
namespace Go.Proofs.YtbcjcekoonebiaaGreat.Tl
open Go Go.RowKit
structure St where
  n : Nat
  env : Nat → Option AV
  H : Nat → Option AObj

def ofVal1 : Value → Option AV
  | .bool b => some (.bool b)
  | .int k n => some (.int k n)
  | .string s => some (.str s)
  | .pointer none => some .nilp
  | .slice none 0 0 => some (.sl .nil 0 [])
  | .nilFunc => some .nilf
  | _ => none
def ofVals : List Value → Option (List AV)
  | [] => some []
  | v :: r => match ofVal1 v, ofVals r with
    | some x, some l => some (x :: l)
    | _, _ => none
def ofVal : Value → Option AV
  | .agg vs => (ofVals vs.toList).map .agg
  | v => ofVal1 v

def St.ev (s : St) : Operand → Option AV
  | .tmp t => s.env t
  | .const v => ofVal v
  | .func f => some (.func f [] [])
  | .global _ => none

def updL {β : Type} (H : Nat → Option β) : List (Nat × β) → Nat → Option β
  | [] => H
  | p :: r => updL (upd H p.1 p.2) r

def putE (env : Nat → Option AV) (d : Option Tmp) (v : AV) : Nat → Option AV :=
  match d with | some d => upd env d v | none => env

structure Rel (C : Cx) (s : St) (a : Act) : Prop where
  inv : Inv C
  H : C.H = s.H
  real : ∀ id o, s.H id = some o → ∃ v, C.G id = some v
  env : ∀ d v, s.env d = some v → Rd C v (a.tmps.getD d undef)
  size : a.tmps.size = s.n
  defers : a.defers = []

theorem Rd.ofVal1 {C : Cx} {v : Value} {x : AV} (h : ofVal1 v = some x) : Rd C x v ∧ v.oneCell' = true := by
  unfold Tl.ofVal1 at h
  split at h <;> simp at h <;> subst h <;> simp [Rd] <;> rfl
theorem Rd.ofVals {C : Cx} : ∀ {vs : List Value} {l : List AV}, ofVals vs = some l → RdL C l vs ∧ ∀ u ∈ vs, u.oneCell' = true
  | [], l, h => by simp [Tl.ofVals] at h; subst h; exact ⟨by simp [RdL], by simp⟩
  | v :: vs, l, h => by
    simp only [Tl.ofVals] at h
    split at h
    · rename_i x l' h1 h2
      injection h with h
      subst h
      obtain ⟨a1, a2⟩ := Rd.ofVal1 (C := C) h1
      obtain ⟨b1, b2⟩ := Rd.ofVals (C := C) h2
      exact ⟨by simp only [RdL]; exact ⟨a1, b1⟩, fun u hu => by rcases List.mem_cons.1 hu with rfl | hu; exact a2; exact b2 u hu⟩
    · cases h
theorem Rd.ofVal {C : Cx} {v : Value} {x : AV} (h : ofVal v = some x) : Rd C x v := by
  unfold Tl.ofVal at h
  split at h
  · simp only [Option.map_eq_some_iff] at h
    obtain ⟨l, h1, rfl⟩ := h
    obtain ⟨a1, a2⟩ := Rd.ofVals (C := C) h1
    simp only [Rd]
    exact ⟨_, rfl, a1, a2⟩
  · exact (Rd.ofVal1 h).1

theorem Rel.ev {C : Cx} {s : St} {a : Act} (h : Rel C s a) {x : Operand} {v : AV} (hx : s.ev x = some v) : Rd C v (a.eval x) := by
  cases x with
  | tmp t => exact h.env t v hx
  | const c => exact Rd.ofVal hx
  | func f =>
    simp only [St.ev] at hx
    injection hx with hx
    subst hx
    simp only [Rd, Act.eval]
    exact ⟨#[], #[], rfl, by simp [RdL], by simp [RdL]⟩
  | global g => cases hx

def OpS (P : Program) (o : Oper) (ρ : Operand → Option AV) (rd up : List (Nat × AObj)) (v : AV) : Prop :=
  ∀ (C : Cx) (a : Act) (next : Act → World → Prop) (Q : Exit → Act → World → Prop), Inv C →
    (∀ x ∈ o.op.operands, ∀ y, ρ x = some y → Rd C y (a.eval x)) →
    (∀ p ∈ rd, C.H p.1 = some p.2 ∧ ∃ u, C.G p.1 = some u) →
    (∀ p ∈ up, (∃ ob, (p.1, ob) ∈ rd) ∨ C.H p.1 = none) →
    (∀ (C' : Cx) (u : Value), Inv C' → Le C C' → C'.w0 = C.w0 → C'.ok0 = C.ok0 → C'.H = updL C.H up → (∀ id u, C.G id = some u → ∃ u', C'.G id = some u') → (∀ p ∈ up, ∃ u, C'.G p.1 = some u) → Rd C' v u → next (a.put o.dst u) C'.w) →
    o.wp P a C.w next Q

def gdec (ops : Array Oper) (env : Nat → Option AV) (o : Oper) : Option Bool :=
  match o.guard with
  | none => some true
  | some (j, want) =>
    match (ops[j]?).bind (·.dst) with
    | none => none
    | some d => match env d with | some (.bool b) => some (b == want) | some (.tup []) => some false | _ => none

def isLoad : Op → Bool
  | .load _ _ => true
  | .call c => match c.callee with | .builtin .len => true | _ => false
  | _ => false
def Leads (v : Option AV) (id : Nat) : Prop := (∃ off, v = some (.ptr id off)) ∨ ∃ ver k, v = some (.mv id ver k)

def St.step (s : St) (d : Option Tmp) (v : AV) (up : List (Nat × AObj)) : St := ⟨s.n, putE s.env d v, updL s.H up⟩

def isNew : Op → Bool
  | .alloc _ => true
  | .box _ _ => true
  | .buildSlice _ _ _ => true
  | .makeSlice _ _ _ => true
  | .convert _ _ _ => true
  | .call c => match c.callee with | .builtin _ => true | _ => false
  | _ => false

structure Col where
  ids : List Nat
  /-- It only looks at these cells of a box. -/
  lk : Option (Nat × Nat × Nat) := none
  /-- It leaves these cells of boxes as they are. -/
  kp : List (Nat × Nat × Nat) := []
def cellsAt (H : Nat → Option AObj) (q : Nat × Nat × Nat) : Option (TypeId × Nat × List AV) :=
  match H q.1 with | some (.box t cells) => some (t, cells.length, (cells.drop q.2.1).take q.2.2) | _ => none
structure Mk where
  b : Bool
  c : Option Col
class NC (M : Nat → Mk) (i : Nat) : Prop where
  h : (M i).c = none
instance {f : Nat → Bool} {i : Nat} : NC (fun i => ⟨f i, none⟩) i := ⟨rfl⟩
theorem NC.no {M : Nat → Mk} {i : Nat} [nc : NC M i] {p : Col → Prop} : ∀ l, (M i).c = some l → p l := fun l q => by rw [nc.h] at q; cases q

structure OpA (P : Program) (M : Nat → Mk) (i : Nat) (o : Oper) (s : St) (rd up : List (Nat × AObj)) (v : AV) : Prop where
  op : OpS P o s.ev rd up v
  hrd : ∀ p ∈ rd, s.H p.1 = some p.2
  hup : ∀ p ∈ up, (∃ ob, (p.1, ob) ∈ rd) ∨ s.H p.1 = none
  m : (M i).b = true ∨ ((rd = [] ∨ (isLoad o.op = true ∧ ∀ p ∈ rd, ∃ x ∈ o.op.operands, Leads (s.ev x) p.1)) ∧ (up = [] ∨ (isNew o.op = true ∧ ∀ p ∈ up, s.H p.1 = none)))
  col : ∀ l, (M i).c = some l → (∀ p ∈ rd, p.1 ∈ l.ids) ∧ (∀ p ∈ up, p.1 ∈ l.ids) ∧
    (∀ q, l.lk = some q → up = [] ∧ (∃ p ∈ rd, p.1 = q.1) ∧ ∀ H', cellsAt H' q = cellsAt s.H q → ∃ rd', rd'.map (·.1) = rd.map (·.1) ∧ OpS P o s.ev rd' [] v ∧ ∀ p ∈ rd', H' p.1 = some p.2) ∧
    (∀ q ∈ l.kp, cellsAt (updL s.H up) q = cellsAt s.H q)

def AL (P : Program) (ops : Array Oper) (M : Nat → Mk) : List Oper → Nat → St → (St → Prop) → Prop
  | [], _, s, Q => Q s
  | o :: rest, i, s, Q =>
    (∀ d, o.dst = some d → d < s.n) ∧
    ∃ b, gdec ops s.env o = some b ∧
      (b = true → ∃ rd up v, OpA P M i o s rd up v ∧ AL P ops M rest (i + 1) (s.step o.dst v up) Q) ∧
      (b = false → AL P ops M rest (i + 1) (s.step o.dst (.tup []) []) Q)

theorem AL.op {P : Program} {ops : Array Oper} {M : Nat → Mk} {o : Oper} {rest : List Oper} {i : Nat} {s : St} {Q : St → Prop} (hd : ∀ d, o.dst = some d → d < s.n) (hg : gdec ops s.env o = some true)
    {rd up : List (Nat × AObj)} {v : AV} (h : OpA P M i o s rd up v) (k : AL P ops M rest (i + 1) (s.step o.dst v up) Q) : AL P ops M (o :: rest) i s Q :=
  ⟨hd, true, hg, fun _ => ⟨rd, up, v, h, k⟩, (fun h => by cases h)⟩
theorem AL.skip {P : Program} {ops : Array Oper} {M : Nat → Mk} {o : Oper} {rest : List Oper} {i : Nat} {s : St} {Q : St → Prop} (hd : ∀ d, o.dst = some d → d < s.n) (hg : gdec ops s.env o = some false)
    (k : AL P ops M rest (i + 1) (s.step o.dst (.tup []) []) Q) : AL P ops M (o :: rest) i s Q :=
  ⟨hd, false, hg, (fun h => by cases h), fun _ => k⟩
theorem AL.guard {P : Program} {ops : Array Oper} {M : Nat → Mk} {o : Oper} {rest : List Oper} {i : Nat} {s : St} {Q : St → Prop} (hd : ∀ d, o.dst = some d → d < s.n) {b : Bool} (hg : gdec ops s.env o = some b)
    (h1 : b = true → AL P ops M (o :: rest) i s Q) (h0 : b = false → AL P ops M (o :: rest) i s Q) : AL P ops M (o :: rest) i s Q := by
  cases b
  · exact h0 rfl
  · exact h1 rfl

theorem getD_put {a : Act} {dst : Option Tmp} {u : Value} {d : Nat} : (a.put dst u).tmps.getD d undef = if dst = some d ∧ d < a.tmps.size then u else a.tmps.getD d undef := by
  cases dst with
  | none => simp [Act.put]
  | some e =>
    simp only [Act.put, Array.getD_eq_getD_getElem?, Array.getElem?_setIfInBounds]
    by_cases h : e = d
    · subst h
      by_cases h2 : e < a.tmps.size
      · simp [h2]
      · simp [h2, Array.getElem?_eq_none (Nat.le_of_not_lt h2)]
    · simp [h]

theorem put_size (a : Act) (dst : Option Tmp) (u : Value) : (a.put dst u).tmps.size = a.tmps.size := by
  cases dst <;> simp [Act.put]
theorem put_defers (a : Act) (dst : Option Tmp) (u : Value) : (a.put dst u).defers = a.defers := by
  cases dst <;> simp [Act.put]

theorem updL_some {β : Type} {H : Nat → Option β} : ∀ {up : List (Nat × β)} {id : Nat} {o : β}, updL H up id = some o → H id = some o ∨ ∃ ob, (id, ob) ∈ up
  | [], _, _, h => .inl h
  | p :: r, id, o, h => by
    simp only [updL] at h
    rcases updL_some h with h | ⟨ob, h⟩
    · by_cases e : id = p.1
      · exact .inr ⟨p.2, by rw [e]; simp⟩
      · rw [upd_ne _ _ e] at h; exact .inl h
    · exact .inr ⟨ob, by simp [h]⟩

theorem Rel.step {C C' : Cx} {s : St} {a : Act} (h : Rel C s a) {o : Oper} (hd : ∀ d, o.dst = some d → d < s.n) {v : AV} {u : Value} {up : List (Nat × AObj)} (hI : Inv C') (hle : Le C C') (hH : C'.H = updL C.H up)
    (hG : ∀ id u, C.G id = some u → ∃ u', C'.G id = some u') (hup : ∀ p ∈ up, ∃ u, C'.G p.1 = some u) (hv : Rd C' v u) : Rel C' (s.step o.dst v up) (a.put o.dst u) := by
  refine ⟨hI, by rw [hH, h.H]; rfl, fun id ob hob => ?_, fun d x hx => ?_, by rw [put_size]; exact h.size, by rw [put_defers]; exact h.defers⟩
  · simp only [St.step] at hob
    rcases updL_some hob with h1 | ⟨ob', h1⟩
    · obtain ⟨u', h2⟩ := h.real id ob h1
      exact hG id u' h2
    · exact hup _ h1
  · simp only [St.step] at hx
    rw [getD_put]
    split
    · rename_i hc
      rw [hc.1] at hx
      simp only [putE, upd_same] at hx
      injection hx with hx
      subst hx
      exact hv
    · rename_i hc
      have : s.env d = some x := by
        cases hdst : o.dst with
        | none => rw [hdst] at hx; exact hx
        | some e =>
          rw [hdst] at hx
          by_cases e2 : d = e
          · subst e2
            exact absurd ⟨hdst, by rw [h.size]; exact hd d hdst⟩ hc
          · simpa only [putE, upd_ne _ _ e2] using hx
      exact (h.env d x this).le hle

theorem Rel.wanted {C : Cx} {s : St} {a : Act} (h : Rel C s a) {ops : Array Oper} {o : Oper} {b : Bool} (hg : gdec ops s.env o = some b) : Region.wanted o (yielded ops a.tmps) = b := by
  unfold gdec at hg
  unfold Region.wanted
  split at hg
  · rename_i h1; rw [h1]; injection hg
  · rename_i j want h1
    rw [h1]
    simp only
    split at hg
    · cases hg
    · rename_i d hd
      split at hg
      · rename_i c hc
        injection hg with hg
        have h2 := h.env d _ hc
        simp only [Rd] at h2
        have h3 : a.tmps[d]? = some (.bool c) := by
          rw [Array.getD_eq_getD_getElem?] at h2
          cases h4 : a.tmps[d]? with
          | none => rw [h4] at h2; simp [undef] at h2
          | some u => rw [h4] at h2; simp at h2; rw [h2]
        simp only [yielded, hd, Option.bind_some, h3]
        rw [← hg]
        cases c <;> cases want <;> rfl
      · rename_i hc
        injection hg with hg
        have h2 := h.env d _ hc
        simp only [Rd] at h2
        obtain ⟨us, h2, h3⟩ := h2
        have hy : yielded ops a.tmps j = none := by
          simp only [yielded, hd, Option.bind_some]
          cases h4 : a.tmps[d]? with
          | none => rfl
          | some u =>
            rw [Array.getD_eq_getD_getElem?, h4] at h2
            simp at h2
            subst h2
            rfl
        rw [hy, ← hg]
        rfl
      · cases hg

def Lift (S : Nat → Bool) (C : Cx) (Q : Exit → St → Prop) : Exit → Act → World → Prop := fun e a w =>
  ∃ s' C', Q e s' ∧ Rel C' s' a ∧ C'.w = w ∧ C'.w0 = C.w0 ∧ C'.ok0 = C.ok0 ∧ LeS S C C'

theorem Lift.later {S : Nat → Bool} {C C1 : Cx} {Q : Exit → St → Prop} {e : Exit} {a : Act} {w : World} (h : Lift S C1 Q e a w) (h0 : C1.w0 = C.w0) (h1 : C1.ok0 = C.ok0) (hle : LeS S C C1) : Lift S C Q e a w := by
  obtain ⟨s', C', q, r, e1, e2, e3, l⟩ := h
  exact ⟨s', C', q, r, e1, e2.trans h0, e3.trans h1, hle.trans l⟩

theorem wpList_of_AL {P : Program} {ops : Array Oper} {M : Nat → Mk} {S : Nat → Bool} {Q : Exit → St → Prop} : ∀ (l : List Oper) (i : Nat) (s : St) (C : Cx) (a : Act), AL P ops M l i s (Q .normal) → Rel C s a → wpList P ops (Lift S C Q) l a C.w
  | [], i, s, C, a, h, hr => by simp only [AL] at h; exact ⟨s, C, h, hr, rfl, rfl, rfl, LeS.refl S C⟩
  | o :: rest, i, s, C, a, h, hr => by
    obtain ⟨hd, b, hg, h1, h0⟩ := h
    unfold wpList
    rw [hr.wanted hg]
    cases b with
    | true =>
      simp only [if_true]
      obtain ⟨rd, up, v, hop, hk⟩ := h1 rfl
      left
      refine hop.op C a _ _ hr.inv (fun x _ y hy => hr.ev hy) (fun p hp => ?_) (fun p hp => ?_) (fun C' u hI hle hw0 hok hH hG hup hv => ?_)
      · have := hop.hrd p hp
        exact ⟨by rw [hr.H]; exact this, hr.real _ _ this⟩
      · rw [hr.H]; exact hop.hup p hp
      · have hr' := hr.step hd hI hle hH hG hup hv
        have := wpList_of_AL (S := S) rest (i + 1) _ C' _ hk hr'
        exact wpList_mono' (fun e a w h => h.later hw0 hok (hle.leS S)) _ _ _ this
    | false =>
      simp only [Bool.false_eq_true, if_false]
      have hr' : Rel C (s.step o.dst (.tup []) []) (a.put o.dst undef) := hr.step hd hr.inv (Le.refl C) rfl (fun id u h => ⟨u, h⟩) (by simp) (by simp only [Rd]; exact ⟨#[], rfl, by simp [RdL]⟩)
      exact wpList_of_AL (S := S) rest (i + 1) _ C _ (h0 rfl) hr'
where
  wpList_mono' {P : Program} {ops : Array Oper} {Q Q' : Exit → Act → World → Prop} (hq : ∀ e a w, Q e a w → Q' e a w) : ∀ (l : List Oper) (a : Act) (w : World), wpList P ops Q l a w → wpList P ops Q' l a w
    | [], a, w, h => hq _ _ _ h
    | o :: rest, a, w, h => by
      unfold wpList at h ⊢
      split
      · rename_i hw
        rw [if_pos hw] at h
        rcases h with h | ⟨h1, a', w', h2⟩
        · left
          exact owp_mono (fun a w h => wpList_mono' hq rest a w h) hq h
        · right
          exact ⟨h1, a', w', hq _ _ _ h2⟩
      · rename_i hw
        rw [if_neg hw] at h
        exact wpList_mono' hq rest _ _ h
  owp_mono {P : Program} {o : Oper} {a : Act} {w : World} {K K' : Act → World → Prop} {Q Q' : Exit → Act → World → Prop} (h : ∀ a w, K a w → K' a w) (hq : ∀ e a w, Q e a w → Q' e a w) (hh : o.wp P a w K Q) : o.wp P a w K' Q' := by
    unfold Oper.wp at *
    generalize (execOp a.eval o).run P w = r at *
    cases r with
    | ok n w' =>
      cases n <;> simp only [Oper.upon] at hh ⊢ <;>
        first
          | exact h _ _ hh
          | exact Calls.mono hh (fun e w'' he => by cases e <;> first | exact h _ _ he | exact hq _ _ _ he | exact (let ⟨x, y, z⟩ := he; ⟨x, y, hq _ _ _ z⟩))
          | exact Rows.mono hh (fun _ _ he => h _ _ he)
    | halt x w' => cases x <;> simp only [Oper.upon] at hh ⊢ <;> first | exact hq _ _ _ hh | exact hh

def AW (P : Program) (S : Nat → Bool) (c : Code) (Q : Exit → St → Prop) (s : St) : Prop := ∀ C a, Rel C s a → c.wp P (Lift S C Q) a C.w

def AThen (K : St → Prop) (Q : Exit → St → Prop) : Exit → St → Prop
  | .normal, s => K s
  | e, s => Q e s
def ABlock (id : Nat) (Q : Exit → St → Prop) : Exit → St → Prop
  | .exit j, s => if j = id then Q .normal s else Q (.exit j) s
  | e, s => Q e s

variable {P : Program} {S : Nat → Bool} {Q : Exit → St → Prop} {s : St}
theorem AW.mono {c : Code} {Q' : Exit → St → Prop} (h : AW P S c Q s) (hq : ∀ e s, Q e s → Q' e s) : AW P S c Q' s :=
  fun C a hr => wp_mono (h C a hr) (fun e a w ⟨s', C', q, r⟩ => ⟨s', C', hq _ _ q, r⟩)
theorem AW.skip (h : Q .normal s) : AW P S .skip Q s := fun C a hr => wp_skip ⟨s, C, h, hr, rfl, rfl, rfl, LeS.refl S C⟩
theorem AW.ret (h : Q .ret s) : AW P S .ret Q s := fun C a hr => wp_ret ⟨s, C, h, hr, rfl, rfl, rfl, LeS.refl S C⟩
theorem AW.exit {id : Nat} (h : Q (.exit id) s) : AW P S (.exit id) Q s := fun C a hr => wp_exit ⟨s, C, h, hr, rfl, rfl, rfl, LeS.refl S C⟩
theorem AW.seq {x y : Code} (h : AW P S x (AThen (AW P S y Q) Q) s) : AW P S (.seq x y) Q s := fun C a hr => wp_seq (wp_mono (h C a hr) (fun e a w ⟨s', C', q, r, e1, e2, e3, l⟩ => by
  cases e with
  | normal => subst e1; exact wp_mono (q C' a r) (fun e a w h => h.later e2 e3 l)
  | _ => exact ⟨s', C', q, r, e1, e2, e3, l⟩))
theorem AW.cond {c : Operand} {x y : Code} {b : Bool} (hc : s.ev c = some (.bool b)) (h1 : b = true → AW P S x Q s) (h0 : b = false → AW P S y Q s) : AW P S (.cond c x y) Q s := fun C a hr => by
  have h := hr.ev hc
  simp only [Rd] at h
  exact wp_cond_split h (fun e => h1 e C a hr) (fun e => h0 e C a hr)
theorem AW.block {id : Nat} {c : Code} (h : AW P S c (ABlock id Q) s) : AW P S (.block id c) Q s := fun C a hr => wp_block (wp_mono (h C a hr) (fun e a w ⟨s', C', q, r⟩ => by
  cases e with
  | exit j =>
    simp only [ABlock] at q
    simp only [Exit.inBlock]
    split
    · rename_i e; rw [if_pos e] at q; exact ⟨s', C', q, r⟩
    · rename_i e; rw [if_neg e] at q; exact ⟨s', C', q, r⟩
  | _ => exact ⟨s', C', q, r⟩))
theorem AW.region {id : Nat} {l : List Oper} {M : Nat → Bool} (h : AL P l.toArray (fun i => ⟨M i, none⟩) l 0 s (Q .normal)) : AW P S (.region id l.toArray false) Q s := fun C a hr => wp_region_lit (wpList_of_AL l 0 s C a h hr)

def inO (S : Nat → Bool) : AObj → Bool
  | .box _ cells => inL S cells
  | .row _ _ _ => true
  | .arr _ _ _ rows => inR S rows

theorem AW.forget {c : Code} (s' : St) (K : Nat → Bool) (hS : ∀ id, S id = true → K id = true) (hn : s'.n = s.n) (he : ∀ d v, s'.env d = some v → s.env d = some v ∧ inA K v = true)
    (hH : ∀ id, s'.H id = if K id = true then s.H id else none) (hO : ∀ id o, s'.H id = some o → inO K o = true) (h : AW P S c Q s') : AW P S c Q s := fun C a hr => by
  let C' : Cx := ⟨C.w0, C.ok0, s'.H, fun id => if K id = true then C.G id else none, C.w⟩
  have hG : ∀ id v, C'.G id = some v → K id = true ∧ C.G id = some v := fun id v h => by
    simp only [C'] at h
    split at h
    · rename_i q; exact ⟨q, h⟩
    · cases h
  have hHt : ∀ id, K id = true → s'.H id = C.H id := fun id hk => by rw [hH id, if_pos hk, hr.H]
  have hok : ∀ b j, C.ok b j → C'.ok b j := fun b j k => ⟨k.1, fun id v q1 q2 => by
    obtain ⟨k1, k2⟩ := hG id v q1
    obtain ⟨e, sz, n, k3, k4⟩ := k.2 id v k2 q2
    exact ⟨e, sz, n, by show s'.H id = _; rw [hHt id k1]; exact k3, k4⟩⟩
  have hptr : ∀ id, K id = true → ∀ b, C.G id = some (.pointer (some ⟨b, 0, none⟩)) → C'.G id = some (.pointer (some ⟨b, 0, none⟩)) := fun id hk b q => by
    show (if K id = true then C.G id else none) = _; rw [if_pos hk]; exact q
  have htag : ∀ id, K id = true → ∀ n v, TagP C id n v → TagP C' id n v := fun id hk n v ⟨e, sz, m, t1, t2, t3⟩ =>
    ⟨e, sz, m, by show s'.H id = _; rw [hHt id hk]; exact t1, t2, fun q => by show (if K id = true then C.G id else none) = _; rw [if_pos hk]; exact t3 q⟩
  have harr : ∀ id, K id = true → ∀ n z v, ArrP C id n z v → ArrP C' id n z v := fun id hk n z v ⟨sh, e, sz, m, rs, t1, t2, t3⟩ =>
    ⟨sh, e, sz, m, rs, by show s'.H id = _; rw [hHt id hk]; exact t1, t2, fun q => by show ∃ g, (if K id = true then C.G id else none) = _ ∧ _; rw [if_pos hk]; exact t3 q⟩
  have hl : Le0 C C' K := ⟨fun b j u k1 k2 => ⟨hok b j k1, k2⟩, hptr, htag, harr⟩
  have hls : LeS S C C' := ⟨fun b j u k1 k2 => ⟨hok b j k1, k2⟩, fun id q => hptr id (hS id q), fun id q => htag id (hS id q), fun id q => harr id (hS id q), Nat.le_refl _, fun b _ hn => ⟨rfl, fun id v q1 q2 => hn id v (hG id v q1).2 q2⟩⟩
  have hI : Inv C' := by
    refine ⟨hr.inv.below, fun id v q => ?_, fun id id' v v' b q1 q2 => hr.inv.apart id id' v v' b (hG id v q1).2 (hG id' v' q2).2, hr.inv.fresh, fun id v b q1 => hr.inv.okG id v b (hG id v q1).2⟩
    obtain ⟨k1, k2⟩ := hG id v q
    obtain ⟨o, k3, k4⟩ := hr.inv.obj id v k2
    have k5 : s'.H id = some o := by rw [hHt id k1]; exact k3
    refine ⟨o, k5, ?_⟩
    cases o with
    | box t cells =>
      obtain ⟨b, cs, q1, q2, q3, q4, q5⟩ := k4
      exact ⟨b, cs, q1, q2, q3, RdL.mono hl _ _ (hO id _ k5) q4, q5⟩
    | row e sz n => exact k4
    | arr e sz ver rows =>
      obtain ⟨z1, z2, xs, z3, z4, z5⟩ := k4
      refine ⟨z1, z2, xs, z3, RdL.mono hl _ _ ?_ z4, z5⟩
      have := hO id _ k5
      simp only [inO] at this
      rw [inL_all, List.all_flatten]
      rw [inR_all] at this
      exact this
  have hr' : Rel C' s' a := by
    refine ⟨hI, rfl, fun id o q => ?_, fun d v q => ?_, by rw [hr.size, hn], hr.defers⟩
    · have hk : K id = true := by
        cases hk : K id with
        | true => rfl
        | false => rw [hH id, hk] at q; simp at q
      rw [hHt id hk, hr.H] at q
      obtain ⟨v, hv⟩ := hr.real id o q
      exact ⟨v, by show (if K id = true then C.G id else none) = _; rw [if_pos hk]; exact hv⟩
    · obtain ⟨k1, k2⟩ := he d v q
      exact Rd.mono hl _ _ k2 (hr.env d v k1)
  exact wp_mono (h C' a hr') (fun e a w h => Lift.later h rfl rfl hls)

theorem AW.loop {α : Type} {c : Code} (I : α → St → Prop) (μ : α → Nat) (x0 : α) (h0 : I x0 s) (round : ∀ x s, I x s → AW P S c (AThen (fun s' => ∃ y, I y s' ∧ μ y < μ x) Q) s) : AW P S (.loop c) Q s := fun C a hr => by
  refine wp_loop_ghost (I := fun n a w => ∃ x s' C', I x s' ∧ μ x = n ∧ Rel C' s' a ∧ C'.w = w ∧ C'.w0 = C.w0 ∧ C'.ok0 = C.ok0 ∧ LeS S C C') (μ x0) ⟨x0, s, C, h0, rfl, hr, rfl, rfl, rfl, LeS.refl S C⟩ ?_
  rintro n a w ⟨x, s', C', hx, rfl, hr', rfl, e1, e2, l⟩
  refine wp_mono (round x s' hx C' a hr') (fun e a w hl => ?_)
  obtain ⟨s2, C2, q, r, f1, f2, f3, l2⟩ := hl
  cases e with
  | normal =>
    obtain ⟨y, hy, hlt⟩ := q
    exact ⟨μ y, hlt, y, s2, C2, hy, rfl, r, f1, f2.trans e1, f3.trans e2, l.trans l2⟩
  | _ => exact ⟨s2, C2, q, r, f1, f2.trans e1, f3.trans e2, l.trans l2⟩

end Go.Proofs.YtbcjcekoonebiaaGreat.Tl

set_option linter.unusedVariables false
set_option linter.unusedSimpArgs false
namespace Go.Proofs.YtbcjcekoonebiaaGreat.Tl
open Go Go.RowKit
/-! ### what is asked of types -/
def lay (P : Program) (T : TypeId) : Option (Bool × Nat) :=
  match P.underlying T, P.info? T with
  | some d, some i => some ((match d with | .struct _ => true | .array _ _ => true | _ => false), i.size)
  | _, _ => none
def fld (P : Program) (S : TypeId) (f : Nat) : Option (Nat × Nat × Bool) :=
  match P.underlying S with
  | some (.struct fs) => match fs[f]? with
    | some x => match lay P x.type with
      | some (g, n) => some (x.offset, n, g)
      | none => none
    | none => none
  | _ => none
def elm (P : Program) (T : TypeId) : Option (TypeId × Nat) :=
  match P.underlying T with
  | some (.slice e) => match P.info? e with
    | some i => some (e, i.size)
    | none => none
  | _ => none
inductive Sort0 where | bool | int (k : IntKind) | string | pointer | slice (e : TypeId) | func | other
  deriving DecidableEq
def sort0 (P : Program) (T : TypeId) : Sort0 :=
  match P.underlying T with
  | some .bool => .bool
  | some (.int k) => .int k
  | some .string => .string
  | some (.pointer _) => .pointer
  | some (.slice e) => .slice e
  | some (.func _ _ _) => .func
  | _ => .other

structure TI where
  lay : List (Nat × (Bool × Nat))
  fld : List (Nat × List (Nat × Nat × Bool))
  elm : List (Nat × (TypeId × Nat))
  srt : List (Nat × Sort0)
  zr : List (Nat × List AV)
  plc : List (Nat × List (Nat × Nat))
  byt : List (Nat × Nat)
  fns : List (Nat × Bool)
def gt {β : Type} : List (Nat × β) → Nat → Option β
  | [], _ => none
  | (a, b) :: r, k => bif Nat.beq a k then some b else gt r k
def TI.fl (T : TI) (S f : Nat) : Option (Nat × Nat × Bool) := match gt T.fld S with | some l => l[f]? | none => none
theorem gt_mem {β : Type} : ∀ {l : List (Nat × β)} {k : Nat} {b : β}, gt l k = some b → (k, b) ∈ l
  | [], _, _, h => by cases h
  | (a, c) :: r, k, b, h => by
    simp only [gt] at h
    cases hq : Nat.beq a k with
    | true => rw [hq] at h; simp only [cond_true] at h; injection h with h; subst h; have := Nat.eq_of_beq_eq_true hq; subst this; simp
    | false => rw [hq] at h; simp only [cond_false] at h; simp [gt_mem h]

/-! ### values of one cell -/
def one : AV → Bool
  | .undef => false
  | .agg _ => false
  | .tup _ => false
  | _ => true
theorem Rd.one {C : Cx} {x : AV} {u : Value} (h : one x = true) (hr : Rd C x u) : u.oneCell' = true ∧ u.cells = #[u] := by
  cases x <;> simp only [Tl.one, Bool.false_eq_true] at h <;> simp only [Rd] at hr
  case bool b => subst hr; exact ⟨rfl, rfl⟩
  case int k n => subst hr; exact ⟨rfl, rfl⟩
  case str s => subst hr; exact ⟨rfl, rfl⟩
  case nilp => subst hr; exact ⟨rfl, rfl⟩
  case ptr id off => obtain ⟨b, _, rfl⟩ := hr; exact ⟨rfl, rfl⟩
  case ep cells => obtain ⟨b, off, rfl, _⟩ := hr; exact ⟨rfl, rfl⟩
  case sl tag sz rows => obtain ⟨A, c, rfl, _⟩ := hr; exact ⟨rfl, rfl⟩
  case func f a b => obtain ⟨vs, us, rfl, _⟩ := hr; exact ⟨rfl, rfl⟩
  case nilf => subst hr; exact ⟨rfl, rfl⟩
  case mv id ver k =>
    have := hr.1
    cases k <;> simp only [Shp] at this
    · obtain ⟨A, n, c, rfl⟩ := this; exact ⟨rfl, rfl⟩
    · obtain ⟨A, n, c, rfl, _⟩ := this; exact ⟨rfl, rfl⟩
    · obtain ⟨a, rfl⟩ := this; exact ⟨rfl, rfl⟩

def cellsA : AV → Option (List AV)
  | .agg l => some l
  | x => if one x then some [x] else none
theorem cellsA_rd {C : Cx} {x : AV} {u : Value} {l : List AV} (h : cellsA x = some l) (hr : Rd C x u) : RdL C l u.cells.toList ∧ ∀ y ∈ u.cells.toList, y.oneCell' = true := by
  by_cases ha : ∃ m, x = .agg m
  · obtain ⟨m, rfl⟩ := ha
    simp only [cellsA] at h
    injection h with h
    subst h
    simp only [Rd] at hr
    obtain ⟨vs, rfl, h1, h2⟩ := hr
    exact ⟨h1, h2⟩
  · have h1 : (if one x then some [x] else none) = some l := by
      cases x <;> simp_all [cellsA]
    split at h1
    · rename_i h2
      injection h1 with h1
      subst h1
      obtain ⟨k1, k2⟩ := hr.one h2
      rw [k2]
      exact ⟨by simp only [RdL]; exact ⟨hr, trivial⟩, by simpa using k1⟩
    · cases h1

def valA (g : Bool) (n : Nat) (cells : List AV) : Option AV :=
  if g then (if n ≤ cells.length then some (.agg (cells.take n)) else none) else cells.head?

/-! ### binary operations -/
def slNil : Tag → List (List AV) → Option Bool
  | .nil, [] => some true
  | _, _ :: _ => some false
  | _, _ => none
def abin (T : TI) (op : BinOp) (ty : TypeId) : AV → AV → Option AV
  | .int k a, .int k' b =>
    match op with
    | .shl => if b < 0 then none else some (.int k (k.wrap (a * 2 ^ (min b.toNat k.bits))))
    | .shr => if b < 0 then none else some (.int k (a.fdiv (2 ^ (min b.toNat k.bits))))
    | op => if k = k' then
        match op with
        | .add => some (.int k (k.wrap (a + b)))
        | .sub => some (.int k (k.wrap (a - b)))
        | .mul => some (.int k (k.wrap (a * b)))
        | .quo => if b = 0 then none else some (.int k (k.wrap (a.tdiv b)))
        | .rem => if b = 0 then none else some (.int k (a.tmod b))
        | .and => some (.int k (bits .and k a b))
        | .or => some (.int k (bits .or k a b))
        | .xor => some (.int k (bits .xor k a b))
        | .andNot => some (.int k (bits .andNot k a b))
        | .eql => some (.bool (a == b))
        | .neq => some (.bool (a != b))
        | .lss => some (.bool (decide (a < b)))
        | .leq => some (.bool (decide (a ≤ b)))
        | .gtr => some (.bool (decide (a > b)))
        | .geq => some (.bool (decide (a ≥ b)))
        | _ => none
      else none
  | .str a, .str b =>
    match op with
    | .add => if a.size + b.size ≤ 9223372036854775807 then some (.str (a ++ b)) else none
    | .eql => some (.bool (a.toList == b.toList))
    | .neq => some (.bool (!(a.toList == b.toList)))
    | .lss => some (.bool (Op.bytesLess a.toList b.toList))
    | .leq => some (.bool (Op.bytesLess a.toList b.toList || a.toList == b.toList))
    | .gtr => some (.bool (!(Op.bytesLess a.toList b.toList || a.toList == b.toList)))
    | .geq => some (.bool (!(Op.bytesLess a.toList b.toList)))
    | _ => none
  | .bool a, .bool b =>
    if gt T.srt ty = some .bool then (match op with | .eql => some (.bool (a == b)) | .neq => some (.bool (!(a == b))) | _ => none) else none
  | .ptr _ _, .nilp => if gt T.srt ty = some .pointer then (match op with | .eql => some (.bool false) | .neq => some (.bool true) | _ => none) else none
  | .ep _, .nilp => if gt T.srt ty = some .pointer then (match op with | .eql => some (.bool false) | .neq => some (.bool true) | _ => none) else none
  | .nilp, .nilp => if gt T.srt ty = some .pointer then (match op with | .eql => some (.bool true) | .neq => some (.bool false) | _ => none) else none
  | .sl tag sz rows, .sl .nil _ [] => match gt T.srt ty, slNil tag rows with
    | some (.slice _), some b => match op with | .eql => some (.bool b) | .neq => some (.bool (!b)) | _ => none
    | _, _ => none
  | .mv _ _ (.view _ _ true), .sl .nil _ [] => match gt T.srt ty with
    | some (.slice _) => (match op with | .eql => some (.bool false) | .neq => some (.bool true) | _ => none)
    | _ => none
  | _, _ => none

theorem sort0_bool {P : Program} {T : TypeId} (h : sort0 P T = .bool) : P.underlying T = some .bool := by
  unfold sort0 at h; split at h <;> first | assumption | cases h
theorem sort0_string {P : Program} {T : TypeId} (h : sort0 P T = .string) : P.underlying T = some .string := by
  unfold sort0 at h; split at h <;> first | assumption | cases h
theorem sort0_int {P : Program} {T : TypeId} {k : IntKind} (h : sort0 P T = .int k) : P.underlying T = some (.int k) := by
  unfold sort0 at h; split at h <;> first | cases h | skip
  assumption
theorem sort0_slice {P : Program} {T e : TypeId} (h : sort0 P T = .slice e) : P.underlying T = some (.slice e) := by
  unfold sort0 at h; split at h <;> first | cases h | skip
  assumption
theorem sort0_pointer {P : Program} {T : TypeId} (h : sort0 P T = .pointer) : ∃ e, P.underlying T = some (.pointer e) := by
  unfold sort0 at h; split at h <;> first | cases h | skip
  exact ⟨_, by assumption⟩

theorem equalIn_bool {P : Program} (w : World) (d : Nat) (T : TypeId) (a b : Bool) (h : P.underlying T = some .bool) : (Op.equalIn (d + 1) T (.bool a) (.bool b)).run P w = .ok (a == b) w := by
  simp [Op.equalIn, run_underlying h]
theorem equalIn_ptr_nil {P : Program} (w : World) (d : Nat) (T e : TypeId) (a : Option Addr) (h : P.underlying T = some (.pointer e)) : (Op.equalIn (d + 1) T (.pointer a) (.pointer none)).run P w = .ok a.isNone w := by
  cases a <;> simp [Op.equalIn, run_underlying h]
theorem eql_bool {P : Program} (w : World) (T : TypeId) (a b : Bool) (h : P.underlying T = some .bool) : (binOp .eql T (.bool a) (.bool b)).run P w = .ok (.bool (a == b)) w := by
  have := equalIn_bool w 9999 T a b h
  have h2 : (Op.equal T (.bool a) (.bool b)).run P w = .ok (a == b) w := this
  show (do pure (.bool (← Op.equal T (.bool a) (.bool b))) : Sem Value).run P w = _
  simp only [Sem.run_bind, h2, Result.andThen_ok, Sem.run_pure]
theorem neq_bool {P : Program} (w : World) (T : TypeId) (a b : Bool) (h : P.underlying T = some .bool) : (binOp .neq T (.bool a) (.bool b)).run P w = .ok (.bool (!(a == b))) w := by
  have := equalIn_bool w 9999 T a b h
  have h2 : (Op.equal T (.bool a) (.bool b)).run P w = .ok (a == b) w := this
  show (do pure (.bool (!(← Op.equal T (.bool a) (.bool b)))) : Sem Value).run P w = _
  simp only [Sem.run_bind, h2, Result.andThen_ok, Sem.run_pure]
theorem eql_ptr {P : Program} (w : World) (T e : TypeId) (a : Option Addr) (h : P.underlying T = some (.pointer e)) : (binOp .eql T (.pointer a) (.pointer none)).run P w = .ok (.bool a.isNone) w := by
  have := equalIn_ptr_nil w 9999 T e a h
  have h2 : (Op.equal T (.pointer a) (.pointer none)).run P w = .ok a.isNone w := this
  show (do pure (.bool (← Op.equal T (.pointer a) (.pointer none))) : Sem Value).run P w = _
  simp only [Sem.run_bind, h2, Result.andThen_ok, Sem.run_pure]
theorem neq_ptr {P : Program} (w : World) (T e : TypeId) (a : Option Addr) (h : P.underlying T = some (.pointer e)) : (binOp .neq T (.pointer a) (.pointer none)).run P w = .ok (.bool (!a.isNone)) w := by
  have := equalIn_ptr_nil w 9999 T e a h
  have h2 : (Op.equal T (.pointer a) (.pointer none)).run P w = .ok a.isNone w := this
  show (do pure (.bool (!(← Op.equal T (.pointer a) (.pointer none)))) : Sem Value).run P w = _
  simp only [Sem.run_bind, h2, Result.andThen_ok, Sem.run_pure]

theorem equalIn_sl_nil {P : Program} (w : World) (d : Nat) (T e : TypeId) (a : Option Addr) (n c : Nat) (h : P.underlying T = some (.slice e)) : (Op.equalIn (d + 1) T (.slice a n c) (.slice none 0 0)).run P w = .ok a.isNone w := by
  cases a <;> simp [Op.equalIn, run_underlying h]
theorem eql_sl {P : Program} (w : World) (T e : TypeId) (a : Option Addr) (n c : Nat) (h : P.underlying T = some (.slice e)) : (binOp .eql T (.slice a n c) (.slice none 0 0)).run P w = .ok (.bool a.isNone) w := by
  have := equalIn_sl_nil w 9999 T e a n c h
  have h2 : (Op.equal T (.slice a n c) (.slice none 0 0)).run P w = .ok a.isNone w := this
  show (do pure (.bool (← Op.equal T (.slice a n c) (.slice none 0 0))) : Sem Value).run P w = _
  simp only [Sem.run_bind, h2, Result.andThen_ok, Sem.run_pure]
theorem neq_sl {P : Program} (w : World) (T e : TypeId) (a : Option Addr) (n c : Nat) (h : P.underlying T = some (.slice e)) : (binOp .neq T (.slice a n c) (.slice none 0 0)).run P w = .ok (.bool (!a.isNone)) w := by
  have := equalIn_sl_nil w 9999 T e a n c h
  have h2 : (Op.equal T (.slice a n c) (.slice none 0 0)).run P w = .ok a.isNone w := this
  show (do pure (.bool (!(← Op.equal T (.slice a n c) (.slice none 0 0)))) : Sem Value).run P w = _
  simp only [Sem.run_bind, h2, Result.andThen_ok, Sem.run_pure]
theorem slNil_rd {C : Cx} {tag : Tag} {sz : Nat} {rows : List (List AV)} {b : Bool} {u : Value} (h : slNil tag rows = some b) (hu : Rd C (.sl tag sz rows) u) : ∃ A n c, u = .slice A n c ∧ A.isNone = b := by
  simp only [Rd] at hu
  obtain ⟨A, c, rfl, _, _, h3, h4⟩ := hu
  unfold slNil at h
  split at h
  · injection h with h
    subst h
    simp only at h4
    injection h4 with h4
    subst h4
    exact ⟨none, _, _, rfl, rfl⟩
  · injection h with h
    subst h
    rcases h3 with h3 | ⟨b, off, rfl, _⟩
    · cases h3
    · exact ⟨_, _, _, rfl, rfl⟩
  · cases h

theorem abin_run {P : Program} {T : TI} (hT : ∀ {t k}, gt T.srt t = some k → sort0 P t = k) {op : BinOp} {ty : TypeId} {x y r : AV} (h : abin T op ty x y = some r) {C : Cx} {u v : Value} (hu : Rd C x u) (hv : Rd C y v) (ox oy : Operand) (w : World) :
    ∃ z, (do eqGuard op ty ox oy u v; binOp op ty u v : Sem Value).run P w = .ok z w ∧ Rd C r z := by
  unfold abin at h
  split at h
  · simp only [Rd] at hu hv
    subst hu hv
    split at h
    · split at h
      · cases h
      · injection h with h; subst h
        rename_i hb
        exact ⟨_, by simp [binOp, Op.shift, hb]; rfl, by simp [Rd]⟩
    · split at h
      · cases h
      · injection h with h; subst h
        rename_i hb
        exact ⟨_, by simp [binOp, Op.shift, hb]; rfl, by simp [Rd]⟩
    · split at h
      · rename_i hk
        subst hk
        split at h <;> first
          | (injection h with h; subst h; exact ⟨_, by simp [binOp, Op.intArith, intBits_and, intBits_or, intBits_xor, intBits_andNot, Op.intCmp]; rfl, by simp [Rd]⟩)
          | (split at h
             · cases h
             · rename_i hb
               injection h with h; subst h; exact ⟨_, by simp [binOp, Op.intDiv, hb]; rfl, by simp [Rd]⟩)
          | cases h
      · cases h
  · simp only [Rd] at hu hv
    subst hu hv
    split at h <;> first
      | (injection h with h; subst h; exact ⟨_, by simp [binOp, Op.stringOp]; rfl, by simp [Rd]⟩)
      | (split at h
         · rename_i hb
           injection h with h; subst h; exact ⟨_, by simp [binOp]; exact run_string_add_sum w _ _ hb, by simp [Rd]⟩
         · cases h)
      | cases h
  · simp only [Rd] at hu hv
    subst hu hv
    split at h
    · rename_i hs
      have hs := sort0_bool (hT hs)
      split at h <;> first
        | (injection h with h; subst h; exact ⟨_, by simp only [eqGuard_at_bool, Sem.run_bind, Sem.run_pure, Result.andThen_ok]; first | exact eql_bool w ty _ _ hs | exact neq_bool w ty _ _ hs, by simp [Rd]⟩)
        | cases h
    · cases h
  · simp only [Rd] at hu hv
    obtain ⟨b, _, rfl⟩ := hu
    subst hv
    split at h
    · rename_i hs
      obtain ⟨e, hs⟩ := sort0_pointer (hT hs)
      split at h <;> first
        | (injection h with h; subst h; exact ⟨_, by simp only [eqGuard_at_pointer, Sem.run_bind, Sem.run_pure, Result.andThen_ok]; first | exact eql_ptr w ty _ _ hs | exact neq_ptr w ty _ _ hs, by simp [Rd]⟩)
        | cases h
    · cases h
  · simp only [Rd] at hu hv
    obtain ⟨b, off, rfl, _⟩ := hu
    subst hv
    split at h
    · rename_i hs
      obtain ⟨e, hs⟩ := sort0_pointer (hT hs)
      split at h <;> first
        | (injection h with h; subst h; exact ⟨_, by simp only [eqGuard_at_pointer, Sem.run_bind, Sem.run_pure, Result.andThen_ok]; first | exact eql_ptr w ty _ _ hs | exact neq_ptr w ty _ _ hs, by simp [Rd]⟩)
        | cases h
    · cases h
  · simp only [Rd] at hu hv
    subst hu hv
    split at h
    · rename_i hs
      obtain ⟨e, hs⟩ := sort0_pointer (hT hs)
      split at h <;> first
        | (injection h with h; subst h; exact ⟨_, by simp only [eqGuard_at_pointer, Sem.run_bind, Sem.run_pure, Result.andThen_ok]; first | exact eql_ptr w ty _ _ hs | exact neq_ptr w ty _ _ hs, by simp [Rd]⟩)
        | cases h
    · cases h
  · split at h
    · rename_i e bb hs hn
      obtain ⟨A, n, c, rfl, hA⟩ := slNil_rd hn hu
      simp only [Rd] at hv
      obtain ⟨_, _, _, _, _, _, rfl⟩ := hv
      have hs := sort0_slice (hT hs)
      subst hA
      split at h <;> first
        | (injection h with h; subst h; exact ⟨_, by simp only [eqGuard_at_slice, Sem.run_bind, Sem.run_pure, Result.andThen_ok]; first | exact eql_sl w ty _ _ _ _ hs | exact neq_sl w ty _ _ _ _ hs, by simp [Rd]⟩)
        | cases h
    · cases h
  · split at h
    · rename_i e hs
      simp only [Rd] at hu hv
      obtain ⟨A, n, c, rfl, hA⟩ := hu.1
      obtain ⟨_, _, _, _, _, _, rfl⟩ := hv
      have hs := sort0_slice (hT hs)
      have hA : A.isNone = false := by
        cases A with
        | none => exact absurd rfl (hA rfl)
        | some a => rfl
      split at h <;> first
        | (injection h with h; subst h; exact ⟨_, by simp only [eqGuard_at_slice, Sem.run_bind, Sem.run_pure, Result.andThen_ok]; first | exact eql_sl w ty _ _ _ _ hs | exact neq_sl w ty _ _ _ _ hs, by simp [Rd, hA]⟩)
        | cases h
    · cases h
  · cases h

end Go.Proofs.YtbcjcekoonebiaaGreat.Tl

set_option linter.unusedVariables false
set_option linter.unusedSimpArgs false
namespace Go.Proofs.YtbcjcekoonebiaaGreat.Tl
open Go Go.RowKit
def bytesA : List (List AV) → Option (List Int)
  | [] => some []
  | [.int .u8 n] :: r => (bytesA r).map (n :: ·)
  | _ => none

def bnd (ρ : Operand → Option AV) (x : Option Operand) (dflt most : Nat) : Option Nat :=
  match x with
  | none => some dflt
  | some o => match ρ o with
    | some (.int _ i) => if 0 ≤ i ∧ i.toNat ≤ most then some i.toNat else none
    | _ => none

def listA (ρ : Operand → Option AV) : List Operand → Option (List AV)
  | [] => some []
  | x :: r => match ρ x, listA ρ r with
    | some y, some l => some (y :: l)
    | _, _ => none

def aval (T : TI) (H : Nat → Option AObj) (ρ : Operand → Option AV) : Op → Option (AV × List (Nat × AObj))
  | .move x => (ρ x).map (·, [])
  | .assign x => (ρ x).map (·, [])
  | .pick c a b => match ρ c, ρ a, ρ b with
    | some (.bool t), some x, some y => some (if t = true then x else y, [])
    | _, _, _ => none
  | .nilCheck x => match ρ x with
    | some (.ptr i o) => some (.ptr i o, [])
    | some (.ep c) => some (.ep c, [])
    | _ => none
  | .binOp op ty x y _ => match ρ x, ρ y with
    | some a, some b => (abin T op ty a b).map (·, [])
    | _, _ => none
  | .unOp op _ x => match op, ρ x with
    | .neg, some (.int k n) => some (.int k (k.wrap (0 - n)), [])
    | .not, some (.bool b) => some (.bool (!b), [])
    | .xor, some (.int k n) => some (.int k (bits .xor k (if k.signed then -1 else k.max) n), [])
    | _, _ => none
  | .convert src dst x => match gt T.srt src, gt T.srt dst, ρ x with
    | some (.int _), some (.int k), some (.int _ n) => some (.int k (k.wrap n), [])
    | some .string, some .string, some (.str s) => some (.str s, [])
    | some (.slice e), some .string, some (.sl _ 1 rows) => if gt T.srt e = some (.int .u8) then (bytesA rows).map (fun l => (.str (strOfNums l), [])) else none
    | _, _, _ => none
  | .extract x i => match ρ x with
    | some (.tup l) => (l[i]?).map (·, [])
    | _ => none
  | .fieldAddr S x f => match T.fl S f, ρ x with
    | some (off, n + 1, _), some (.ptr id o) => some (.ptr id (o + off), [])
    | some (off, n + 1, _), some (.ep c) => some (.ep (c.drop off), [])
    | _, _ => none
  | .field S x f => match T.fl S f, ρ x with
    | some (off, n, g), some (.agg c) => (valA g n (c.drop off)).map (·, [])
    | _, _ => none
  | .indexAddr ty x i => match gt T.elm ty, ρ x, ρ i with
    | some (_, sz), some (.sl _ sz' rows), some (.int _ i) => if 0 ≤ i then (match rows[i.toNat]? with
        | some r => if sz' = sz then some (.ep r, []) else none
        | none => none) else none
    | _, _, _ => none
  | .index ty x i => match gt T.srt ty, ρ x, ρ i with
    | some .string, some (.str s), some (.int _ i) => if 0 ≤ i then (match s.data[i.toNat]? with
        | some b => some (.int .u8 b.toNat, [])
        | none => none) else none
    | _, _, _ => none
  | .slice ty x lo hi mx => match gt T.srt ty, ρ x, mx with
    | some .string, some (.str s), none => match bnd ρ hi s.size s.size with
      | some h => match bnd ρ lo 0 h with
        | some l => some (.str (s.extract l h), [])
        | none => none
      | none => none
    | some (.slice e), some (.sl _ sz rows), none => match gt T.elm ty with
      | some (_, sz') => if sz' = sz ∨ rows = [] then (match bnd ρ hi rows.length rows.length with
        | some h => match bnd ρ lo 0 h with
          | some l => some (.sl .ro sz ((rows.take h).drop l), [])
          | none => none
        | none => none) else none
      | none => none
    | _, _, _ => none
  | .load ty x => match gt T.lay ty, ρ x with
    | some (g, n), some (.ptr id off) => match H id with
      | some (.box t cells) => (valA g n (cells.drop off)).map (·, [(id, .box t cells)])
      | _ => none
    | some (g, n), some (.ep cells) => (valA g n cells).map (·, [])
    | _, _ => none
  | .makeFunc fn first caps => match fn, listA ρ first.toList, listA ρ caps.toList with
    | .func f, some a, some b => some (.func f a b, [])
    | _, _, _ => none
  | .call c => match c.callee, c.args.toList, c.argTypes.toList with
    | .builtin .len, [x], [ty] => match gt T.srt ty, ρ x with
      | some .string, some (.str s) => some (.int .i64 s.size, [])
      | some (.slice _), some (.sl _ _ rows) => some (.int .i64 rows.length, [])
      | _, _ => none
    | _, _, _ => none
  | _ => none

theorem lay_spec {P : Program} {T : TypeId} {g : Bool} {n : Nat} (h : lay P T = some (g, n)) :
    ∃ i, P.info? T = some i ∧ i.size = n ∧ (∀ w, (isAgg T).run P w = .ok g w) ∧ (∀ w, (sizeOf T).run P w = .ok n w) := by
  unfold lay at h
  split at h
  · rename_i d i hd hi
    injection h with h
    injection h with h1 h2
    refine ⟨i, hi, h2, fun w => ?_, fun w => ?_⟩
    · unfold isAgg
      simp only [Sem.run_bind, run_underlying hd, Result.andThen_ok]
      subst h1
      cases d <;> rfl
    · simp [sizeOf, typeInfo, hi, h2]
  · cases h

theorem head_cell {l : List AV} {x : AV} (h : l.head? = some x) : l[0]? = some x := by cases l <;> simp_all

theorem loadVar_cells {P : Program} {C : Cx} {T : TypeId} {g : Bool} {n : Nat} (h : lay P T = some (g, n)) {cells : List AV} {r : AV} (hr : valA g n cells = some r) (b off : Nat) (vs : List Value)
    (hv : RdL C cells vs) (h1 : ∀ u ∈ vs, u.oneCell' = true) (hc : ∀ j u, vs[j]? = some u → C.w.cell? ⟨b, off + j, none⟩ = some u) :
    ∃ z, (loadVar T ⟨b, off, none⟩).run P C.w = .ok z C.w ∧ Rd C r z := by
  obtain ⟨i, hi, hs, ha, hz⟩ := lay_spec h
  unfold valA at hr
  have hadd : ∀ j, (⟨b, off, none⟩ : Addr).add j = ⟨b, off + j, none⟩ := fun j => by unfold Addr.add; split <;> simp_all
  split at hr
  · rename_i hg
    subst hg
    split at hr
    · rename_i hn
      injection hr with hr
      subst hr
      have hlen := hv.length
      have hl := run_loadCells_list (P := P) C.w ⟨b, off, none⟩ (vs.take n) (fun j u hj => by
        rw [List.getElem?_take] at hj
        split at hj
        · rw [hadd]; exact hc j u hj
        · cases hj)
      rw [show (vs.take n).length = n by simp; omega] at hl
      refine ⟨.agg (vs.take n).toArray, ?_, ?_⟩
      · simp only [loadVar, Sem.run_bind, ha, Result.andThen_ok, if_true, hz, hl, Sem.run_pure]
      · simp only [Rd]
        refine ⟨_, rfl, ?_, fun u hu => h1 u (List.mem_of_mem_take (by simpa using hu))⟩
        have := hv.extract 0 n
        simpa using this
    · cases hr
  · rename_i hg
    have hg : g = false := by simpa using hg
    subst hg
    obtain ⟨u, hu, hrd⟩ := hv.get (head_cell hr)
    refine ⟨u, ?_, hrd⟩
    have := hc 0 u hu
    simp only [Nat.add_zero] at this
    simp only [loadVar, Sem.run_bind, ha, Result.andThen_ok, Bool.false_eq_true, if_false]
    simp [load, Sem.run, this]

theorem OpS.val {P : Program} {o : Oper} {ρ : Operand → Option AV} {rd : List (Nat × AObj)} {v : AV}
    (h : ∀ (C : Cx) (a : Act), Inv C → (∀ x ∈ o.op.operands, ∀ y, ρ x = some y → Rd C y (a.eval x)) → (∀ p ∈ rd, C.H p.1 = some p.2 ∧ ∃ u, C.G p.1 = some u) → ∃ u, (execOp a.eval o).run P C.w = .ok (.value u) C.w ∧ Rd C v u) :
    OpS P o ρ rd [] v := by
  intro C a next Q hI hρ hrd _ hk
  obtain ⟨u, hr, hv⟩ := h C a hI hρ hrd
  unfold Oper.wp
  rw [hr, Oper.upon_value]
  exact hk C u hI (Le.refl C) rfl rfl rfl (fun id u h => ⟨u, h⟩) (by simp) hv

theorem fld_spec {P : Program} {S : TypeId} {f off n : Nat} {g : Bool} (h : fld P S f = some (off, n, g)) : ∃ fs x, P.underlying S = some (.struct fs) ∧ fs[f]? = some x ∧ x.offset = off ∧ lay P x.type = some (g, n) := by
  unfold fld at h
  split at h
  · rename_i fs hfs
    split at h
    · rename_i x hx
      split at h
      · rename_i g' n' hl
        injection h with h
        injection h with h1 h2
        injection h2 with h2 h3
        subst h1 h2 h3
        exact ⟨fs, x, hfs, hx, rfl, hl⟩
      · cases h
    · cases h
  · cases h

theorem elm_spec {P : Program} {T e : TypeId} {sz : Nat} (h : elm P T = some (e, sz)) : P.underlying T = some (.slice e) ∧ ∃ i, P.info? e = some i ∧ i.size = sz := by
  unfold elm at h
  split at h
  · rename_i e' he
    split at h
    · rename_i i hi
      injection h with h
      injection h with h1 h2
      subst h1
      exact ⟨he, i, hi, h2⟩
    · cases h
  · cases h

theorem add_plain' (b off j : Nat) : (⟨b, off, none⟩ : Addr).add j = ⟨b, off + j, none⟩ := by unfold Addr.add; split <;> simp_all

theorem bnd_run {P : Program} {C : Cx} {a : Act} {ρ : Operand → Option AV} {x : Option Operand} {d m r : Nat} (h : bnd ρ x d m = some r) (hρ : ∀ o ∈ x.toArray, ∀ y, ρ o = some y → Rd C y (a.eval o)) (code : BoundsCode) :
    (match x.map a.eval with | some v => Instr.sliceBound v m code | none => pure d : Sem Nat).run P C.w = .ok r C.w := by
  unfold bnd at h
  cases x with
  | none => simp only [Option.map_none] ; injection h with h; subst h; rfl
  | some o =>
    simp only [Option.map_some] at h ⊢
    split at h
    · rename_i k i hk
      have hv := hρ o (by simp) _ hk
      simp only [Rd] at hv
      split at h
      · rename_i hb
        injection h with h
        subst h
        rw [hv]
        exact run_sliceBound C.w _ _ _ _ hb.1 (by omega)
      · cases h
    · cases h

theorem bnd_le {ρ : Operand → Option AV} {x : Option Operand} {d m r : Nat} (h : bnd ρ x d m = some r) (hd : d ≤ m) : r ≤ m := by
  unfold bnd at h
  split at h
  · injection h with h; omega
  · split at h
    · split at h
      · injection h with h; omega
      · cases h
    · cases h

theorem bytesA_spec {C : Cx} {b off : Nat} : ∀ {rows : List (List AV)} {ns : List Int}, bytesA rows = some ns → RdR C 1 rows b off → rows.length = ns.length ∧ ∀ i, i < ns.length → C.w.cell? ⟨b, off + i, none⟩ = some (.int .u8 (ns.getD i 0))
  | [], ns, h, _ => by simp [bytesA] at h; subst h; simp
  | r :: rs, ns, h, hr => by
    unfold bytesA at h
    split at h
    · rename_i h0; cases h0
    · rename_i n r' h0
      injection h0 with h1 h2
      subst h1 h2
      simp only [Option.map_eq_some_iff] at h
      obtain ⟨l, hl, rfl⟩ := h
      simp only [RdR, RdC] at hr
      obtain ⟨_, ⟨_, ⟨u, q1, q2, q3⟩, _⟩, hr⟩ := hr
      simp only [Rd] at q3
      subst q3
      obtain ⟨k1, k2⟩ := bytesA_spec (off := off + 1) hl hr
      refine ⟨by simp [k1], fun i hi => ?_⟩
      cases i with
      | zero => simpa using q1
      | succ i => have := k2 i (by simpa using hi); rw [show off + (i + 1) = off + 1 + i by omega]; simpa using this
    · cases h

theorem listA_rd {C : Cx} {a : Act} {ρ : Operand → Option AV} : ∀ {l : List Operand} {xs : List AV}, listA ρ l = some xs → (∀ x ∈ l, ∀ y, ρ x = some y → Rd C y (a.eval x)) → RdL C xs (l.map a.eval)
  | [], xs, h, _ => by simp [listA] at h; subst h; simp [RdL]
  | x :: r, xs, h, hρ => by
    unfold listA at h
    split at h
    · rename_i y l h1 h2
      injection h with h
      subst h
      simp only [List.map_cons, RdL]
      exact ⟨hρ x (by simp) y h1, listA_rd h2 (fun z hz => hρ z (by simp [hz]))⟩
    · cases h

structure TI.Ok (T : TI) (P : Program) : Prop where
  lay : ∀ {t r}, gt T.lay t = some r → Tl.lay P t = some r
  fld : ∀ {s f r}, T.fl s f = some r → Tl.fld P s f = some r
  elm : ∀ {t r}, gt T.elm t = some r → Tl.elm P t = some r
  srt : ∀ {t r}, gt T.srt t = some r → sort0 P t = r

set_option maxHeartbeats 1000000 in
theorem aval_sound {P : Program} {T : TI} (hT : T.Ok P) {H : Nat → Option AObj} {ρ : Operand → Option AV} {o : Oper} {v : AV} {rd : List (Nat × AObj)} (h : aval T H ρ o.op = some (v, rd)) : OpS P o ρ rd [] v := by
  refine OpS.val fun C a hI hρ hrd => ?_
  obtain ⟨dst, op, ty, pos, after, guard⟩ := o
  simp only at h hρ
  cases op <;> simp only [aval] at h <;> try (cases h; done)
  case move x =>
    simp only [Option.map_eq_some_iff, Prod.mk.injEq] at h
    obtain ⟨y, hy, rfl, rfl⟩ := h
    exact ⟨_, by simp [execOp], hρ x (by simp [Op.operands]) y hy⟩
  case assign x =>
    simp only [Option.map_eq_some_iff, Prod.mk.injEq] at h
    obtain ⟨y, hy, rfl, rfl⟩ := h
    exact ⟨_, by simp [execOp], hρ x (by simp [Op.operands]) y hy⟩
  case pick c x y =>
    split at h
    · rename_i t vx vy h1 h2 h3
      injection h with h
      injection h with h _
      have k1 := hρ c (by simp [Op.operands]) _ h1
      have k2 := hρ x (by simp [Op.operands]) _ h2
      have k3 := hρ y (by simp [Op.operands]) _ h3
      simp only [Rd] at k1
      refine ⟨if t then a.eval x else a.eval y, by simp [execOp, k1, asBool], ?_⟩
      subst h
      cases t
      · simpa using k3
      · simpa using k2
    · cases h
  case nilCheck x =>
    split at h
    · rename_i i off h1
      injection h with h
      injection h with h _
      subst h
      have k1 := hρ x (by simp [Op.operands]) _ h1
      have k2 := k1
      simp only [Rd] at k1
      obtain ⟨b, _, k1⟩ := k1
      exact ⟨a.eval x, by simp [execOp, k1], k2⟩
    · rename_i c h1
      injection h with h
      injection h with h _
      subst h
      have k1 := hρ x (by simp [Op.operands]) _ h1
      have k2 := k1
      simp only [Rd] at k1
      obtain ⟨b, off, k1, _⟩ := k1
      exact ⟨a.eval x, by simp [execOp, k1], k2⟩
    · cases h
  case binOp op ty' x y yT =>
    split at h
    · rename_i vx vy h1 h2
      simp only [Option.map_eq_some_iff, Prod.mk.injEq] at h
      obtain ⟨z, hz, rfl, rfl⟩ := h
      obtain ⟨u, k1, k2⟩ := abin_run hT.srt hz (hρ x (by simp [Op.operands]) _ h1) (hρ y (by simp [Op.operands]) _ h2) x y C.w
      refine ⟨u, ?_, k2⟩
      simp only [execOp, Sem.run_bind] at k1 ⊢
      rw [k1]
      rfl
    · cases h
  case unOp op ty' x =>
    split at h
    · rename_i k n h1
      injection h with h
      injection h with h _
      subst h
      have k1 := hρ x (by simp [Op.operands]) _ h1
      simp only [Rd] at k1
      exact ⟨_, by simp [execOp, k1, Op.unary, Op.intArith]; rfl, by simp [Rd]⟩
    · rename_i b h1
      injection h with h
      injection h with h _
      subst h
      have k1 := hρ x (by simp [Op.operands]) _ h1
      simp only [Rd] at k1
      exact ⟨_, by simp [execOp, k1, Op.unary]; rfl, by simp [Rd]⟩
    · rename_i k n h1
      injection h with h
      injection h with h _
      subst h
      have k1 := hρ x (by simp [Op.operands]) _ h1
      simp only [Rd] at k1
      exact ⟨_, by simp [execOp, k1, Op.unary, intBits_xor]; rfl, by simp [Rd]⟩
    · cases h
  case convert src dst x =>
    split at h
    · rename_i k0 k k1 n h1 h2 h3
      injection h with h
      injection h with h _
      subst h
      have q := hρ x (by simp [Op.operands]) _ h3
      simp only [Rd] at q
      refine ⟨.int k (k.wrap n), ?_, by simp [Rd]⟩
      have e1 := sort0_int (hT.srt h1)
      have e2 := sort0_int (hT.srt h2)
      simp [execOp, q, convert, run_underlying e1, run_underlying e2, Conv.intToInt]
    · rename_i s h1 h2 h3
      injection h with h
      injection h with h _
      subst h
      have q := hρ x (by simp [Op.operands]) _ h3
      simp only [Rd] at q
      refine ⟨.string s, ?_, by simp [Rd]⟩
      have e1 := sort0_string (hT.srt h1)
      have e2 := sort0_string (hT.srt h2)
      simp [execOp, q, convert, run_underlying e1, run_underlying e2]
    · rename_i e tag rows h1 h2 h3
      split at h
      · rename_i h4
        simp only [Option.map_eq_some_iff, Prod.mk.injEq] at h
        obtain ⟨ns, hns, rfl, rfl⟩ := h
        have q := hρ x (by simp [Op.operands]) _ h3
        simp only [Rd] at q
        obtain ⟨A, c, q0, _, _, q1, _⟩ := q
        refine ⟨.string (strOfNums ns), ?_, by simp [Rd]⟩
        have e1 := sort0_slice (hT.srt h1)
        have e2 := sort0_string (hT.srt h2)
        have e3 := sort0_int (hT.srt h4)
        have key : (convert src dst (a.eval x)).run P C.w = .ok (.string (strOfNums ns)) C.w := by
          rw [q0]
          rcases q1 with rfl | ⟨b, off, rfl, q1⟩
          · simp [bytesA] at hns
            subst hns
            cases A with
            | none => exact run_convert_bytes_nil C.w src e e1 e3 _ _ dst e2
            | some ad =>
              obtain ⟨b, off, sp⟩ := ad
              have := run_convert_bytes_string (P := P) C.w src dst e (some ⟨b, off, sp⟩) 0 c e1 e3 e2
              rw [List.length_nil, this, run_bytesToString C.w _ 0 c [] (by simp [loadCells, loadCellsFrom])]
              rfl
          · obtain ⟨k1, k2⟩ := bytesA_spec hns q1
            rw [k1]
            exact run_convert_bytes_arg C.w src e e1 e3 b off _ c ns rfl k2 dst e2
        simp only [execOp, Sem.run_bind, key, Result.andThen_ok, Sem.run_pure]
      · cases h
    · cases h
  case extract x i =>
    split at h
    · rename_i l h1
      simp only [Option.map_eq_some_iff, Prod.mk.injEq] at h
      obtain ⟨y, hy, rfl, rfl⟩ := h
      have q := hρ x (by simp [Op.operands]) _ h1
      simp only [Rd] at q
      obtain ⟨us, q0, q1⟩ := q
      obtain ⟨u, k1, k2⟩ := q1.get hy
      refine ⟨u, ?_, k2⟩
      have k1 : us[i]? = some u := by simpa using k1
      simp [execOp, q0, Instr.extract, k1]
    · cases h
  case fieldAddr S x f =>
    split at h
    · rename_i off n g id o h1 h2
      injection h with h
      injection h with h _
      subst h
      have q := hρ x (by simp [Op.operands]) _ h2
      simp only [Rd] at q
      obtain ⟨b, q0, q1⟩ := q
      obtain ⟨fs, y, e1, e2, e3, e4⟩ := fld_spec (hT.fld h1)
      obtain ⟨_, _, _, _, e5⟩ := lay_spec e4
      refine ⟨.pointer (some ⟨b, o + off, none⟩), ?_, by simp only [Rd]; exact ⟨b, q0, rfl⟩⟩
      simp [execOp, q1, Instr.fieldAt, run_underlying e1, e2, Instr.sureAddr, fieldPlace, e5, e3, add_plain']
    · rename_i off n g c h1 h2
      injection h with h
      injection h with h _
      subst h
      have q := hρ x (by simp [Op.operands]) _ h2
      simp only [Rd] at q
      obtain ⟨b, o, q1, q2⟩ := q
      obtain ⟨fs, y, e1, e2, e3, e4⟩ := fld_spec (hT.fld h1)
      obtain ⟨_, _, _, _, e5⟩ := lay_spec e4
      refine ⟨.pointer (some ⟨b, o + off, none⟩), ?_, by simp only [Rd]; exact ⟨b, o + off, rfl, q2.drop off⟩⟩
      simp [execOp, q1, Instr.fieldAt, run_underlying e1, e2, Instr.sureAddr, fieldPlace, e5, e3, add_plain']
    · cases h
  case field S x f =>
    split at h
    · rename_i off n g c h1 h2
      simp only [Option.map_eq_some_iff, Prod.mk.injEq] at h
      obtain ⟨y, hy, rfl, rfl⟩ := h
      have q := hρ x (by simp [Op.operands]) _ h2
      simp only [Rd] at q
      obtain ⟨vs, q0, q1, q2⟩ := q
      obtain ⟨fs, z, e1, e2, e3, e4⟩ := fld_spec (hT.fld h1)
      obtain ⟨_, _, _, e5, e6⟩ := lay_spec e4
      have hd := q1.extract off n
      unfold valA at hy
      split at hy
      · rename_i hg
        subst hg
        split at hy
        · rename_i hn
          injection hy with hy
          subst hy
          refine ⟨.agg (vs.extract off (off + n)), ?_, ?_⟩
          · simp [execOp, q0, Instr.field, run_underlying e1, e2, asAgg, part, e5, e6, e3]
          · simp only [Rd]
            refine ⟨_, rfl, ?_, fun u hu => q2 u ?_⟩
            · simpa [Array.toList_extract, List.extract_eq_take_drop] using hd
            · simp only [Array.toList_extract, List.extract_eq_take_drop] at hu
              exact List.mem_of_mem_drop (List.mem_of_mem_take hu)
        · cases hy
      · rename_i hg
        have hg : g = false := by simpa using hg
        subst hg
        have h0 := head_cell hy
        rw [List.getElem?_drop] at h0
        obtain ⟨u, k1, k2⟩ := q1.get h0
        refine ⟨u, ?_, k2⟩
        have k1 : vs[off]? = some u := by simpa using k1
        simp [execOp, q0, Instr.field, run_underlying e1, e2, asAgg, part, e5, e3, k1]
    · cases h
  case indexAddr ty' x i =>
    split at h
    · rename_i e sz tag sz' rows k i' h1 h2 h3
      split at h
      · rename_i hi0
        split at h
        · rename_i r hr
          split at h
          · rename_i hsz
            subst hsz
            injection h with h
            injection h with h _
            subst h
            have q := hρ x (by simp [Op.operands]) _ h2
            have q' := hρ i (by simp [Op.operands]) _ h3
            simp only [Rd] at q q'
            obtain ⟨A, c, q0, _, _, q1, _⟩ := q
            rcases q1 with rfl | ⟨b, off, rfl, q1⟩
            · simp at hr
            · obtain ⟨e1, inf, e2, e3⟩ := elm_spec (hT.elm h1)
              obtain ⟨_, k1⟩ := q1.get hr
              have hlt : i'.toNat < rows.length := (List.getElem?_eq_some_iff.1 hr).1
              refine ⟨.pointer (some ⟨b, off + i'.toNat * sz', none⟩), ?_, by simp only [Rd]; exact ⟨b, _, rfl, k1⟩⟩
              have hlt' : i' < (rows.length : Int) := by omega
              simp [execOp, q0, q', Instr.indexAt, asIntOf, run_underlying e1, hi0, hlt', sizeOf, typeInfo, e2, e3, add_plain']
          · cases h
        · cases h
      · cases h
    · cases h
  case index ty' x i =>
    split at h
    · rename_i s k i' h1 h2 h3
      split at h
      · rename_i hi0
        split at h
        · rename_i b hb
          injection h with h
          injection h with h _
          subst h
          have q := hρ x (by simp [Op.operands]) _ h2
          have q' := hρ i (by simp [Op.operands]) _ h3
          simp only [Rd] at q q'
          refine ⟨.int .u8 b.toNat, ?_, by simp [Rd]⟩
          have e1 := sort0_string (hT.srt h1)
          have hlt : i'.toNat < s.size := (Array.getElem?_eq_some_iff.1 hb).1
          have hb' : s[i'.toNat]? = some b := by
            rw [getElem?_pos s i'.toNat hlt]
            rw [Array.getElem?_eq_getElem hlt] at hb
            injection hb with hb
            rw [← hb]
            rfl
          simp [execOp, q, q', Instr.index, asIntOf, run_underlying e1, hi0, hb']
        · cases h
      · cases h
    · cases h
  case slice ty' x lo hi mx =>
    split at h
    · rename_i s h1 h2
      split at h
      · rename_i hh hhi
        split at h
        · rename_i ll hlo
          injection h with h
          injection h with h _
          subst h
          have q := hρ x (by simp [Op.operands]) _ h2
          simp only [Rd] at q
          have e1 := sort0_string (hT.srt h1)
          refine ⟨.string (s.extract ll hh), ?_, by simp [Rd]⟩
          have b1 := bnd_run (P := P) (C := C) (a := a) hhi (fun y hy z hz => hρ y (by simp [Op.operands] at hy ⊢; simp [hy]) z hz) .sliceAlen
          have b2 := bnd_run (P := P) (C := C) (a := a) hlo (fun y hy z hz => hρ y (by simp [Op.operands] at hy ⊢; simp [hy]) z hz) .sliceB
          have hsb : (Instr.sliceBounds false s.size s.size (lo.map a.eval) (hi.map a.eval) none).run P C.w = .ok (ll, hh, s.size) C.w := by
            cases hi <;> cases lo <;> simp_all [Instr.sliceBounds]
          have key : (Instr.sliceAt ty' (a.eval x) (lo.map a.eval) (hi.map a.eval) none).run P C.w = .ok (.string (s.extract ll hh)) C.w := by
            simp [Instr.sliceAt, run_underlying e1, Instr.slice, q, hsb]
          simp only [execOp, Option.map_none, Sem.run_bind, key, Result.andThen_ok, Sem.run_pure]
        · cases h
      · cases h
    · rename_i e tag sz rows h1 h2
      split at h
      · rename_i e' sz' h4
        split at h
        · rename_i hszr
          split at h
          · rename_i hh hhi
            split at h
            · rename_i ll hlo
              injection h with h
              injection h with h _
              subst h
              have q := hρ x (by simp [Op.operands]) _ h2
              simp only [Rd] at q
              obtain ⟨A, c, q0, qc, qm, q1, _⟩ := q
              obtain ⟨e1, inf, e2, e3⟩ := elm_spec (hT.elm h4)
              have hle := bnd_le hhi (Nat.le_refl _)
              have hle2 := bnd_le hlo (Nat.zero_le _)
              have b1 : (match hi.map a.eval with | some v => Instr.sliceBound v c .sliceAcap | none => pure rows.length : Sem Nat).run P C.w = .ok hh C.w := by
                have hhi' : bnd ρ hi rows.length c = some hh := by
                  unfold bnd at hhi ⊢
                  cases hi with
                  | none => exact hhi
                  | some o =>
                    simp only at hhi ⊢
                    split at hhi
                    · rename_i k i hk
                      split at hhi
                      · rename_i hb; rw [if_pos ⟨hb.1, by omega⟩]; exact hhi
                      · cases hhi
                    · cases hhi
                exact bnd_run (P := P) (C := C) (a := a) hhi' (fun y hy z hz => hρ y (by simp [Op.operands] at hy ⊢; simp [hy]) z hz) .sliceAcap
              have b2 := bnd_run (P := P) (C := C) (a := a) hlo (fun y hy z hz => hρ y (by simp [Op.operands] at hy ⊢; simp [hy]) z hz) .sliceB
              have hsb : (Instr.sliceBounds true rows.length c (lo.map a.eval) (hi.map a.eval) none).run P C.w = .ok (ll, hh, c) C.w := by
                cases hi <;> cases lo <;> simp_all [Instr.sliceBounds]
              have key : (Instr.sliceAt ty' (a.eval x) (lo.map a.eval) (hi.map a.eval) none).run P C.w = .ok (.slice (if c = ll then A else A.map (·.add (ll * sz'))) (hh - ll) (c - ll)) C.w := by
                simp [Instr.sliceAt, run_underlying e1, Instr.slice, q0, hsb, sizeOf, typeInfo, e2, e3]
              refine ⟨_, by simp only [execOp, Option.map_none, Sem.run_bind, key, Result.andThen_ok, Sem.run_pure]; rfl, ?_⟩
              simp only [Rd]
              have hlen : ((rows.take hh).drop ll).length = hh - ll := by simp; omega
              refine ⟨_, c - ll, by rw [hlen], by rw [hlen]; omega, by rw [hlen]; omega, ?_, trivial⟩
              rcases q1 with rfl | ⟨b, off, rfl, q1⟩
              · left; simp
              · by_cases hcl : c = ll
                · left
                  apply List.eq_nil_of_length_eq_zero
                  rw [hlen]; omega
                · right
                  rcases hszr with hs | hs
                  · subst hs
                    refine ⟨b, off + ll * sz', by rw [if_neg hcl]; simp [add_plain'], ?_⟩
                    exact (q1.take hh).drop ll (by simp; omega)
                  · subst hs
                    simp at hlen hle
                    refine ⟨b, off + ll * sz', by rw [if_neg hcl]; simp [add_plain'], by simp [RdR]⟩
            · cases h
          · cases h
        · cases h
      · cases h
    · cases h
  case load ty' x =>
    split at h
    · rename_i g n id off h1 h2
      split at h
      · rename_i t cells h3
        simp only [Option.map_eq_some_iff, Prod.mk.injEq] at h
        obtain ⟨y, hy, rfl, rfl⟩ := h
        have q := hρ x (by simp [Op.operands]) _ h2
        simp only [Rd] at q
        obtain ⟨b, q0, q1⟩ := q
        obtain ⟨k1, _⟩ := hrd (id, .box t cells) (by simp)
        obtain ⟨o, k3, k4⟩ := hI.obj id _ q0
        simp only at k1
        rw [k1] at k3
        injection k3 with k3
        subst k3
        obtain ⟨b', cs, k5, k6, k7, k8, k9⟩ := k4
        injection k5 with k5
        injection k5 with k5
        injection k5 with k5 _ _
        subst k5
        obtain ⟨z, m1, m2⟩ := loadVar_cells (C := C) (hT.lay h1) hy b off (cs.toList.drop off) (by
          have := k8.extract off cells.length
          rw [List.take_of_length_le (by simp), List.take_of_length_le (by have := k8.length; simp at this ⊢; omega)] at this
          exact this) (fun u hu => k9 u (List.mem_of_mem_drop hu)) (fun j u hj => by
          rw [cell_of k7]
          rw [List.getElem?_drop] at hj
          simpa using hj)
        refine ⟨z, ?_, m2⟩
        simp only [execOp, Instr.loadAt, Instr.sureAddr, q1, Sem.run_bind, Sem.run_pure, Result.andThen_ok, m1]
      · cases h
    · rename_i g n cells h1 h2
      simp only [Option.map_eq_some_iff, Prod.mk.injEq] at h
      obtain ⟨y, hy, rfl, rfl⟩ := h
      have q := hρ x (by simp [Op.operands]) _ h2
      simp only [Rd] at q
      obtain ⟨b, off, q0, q1⟩ := q
      obtain ⟨vs, k1, k2, k3⟩ := q1.vals
      obtain ⟨z, m1, m2⟩ := loadVar_cells (C := C) (hT.lay h1) hy b off vs k1 k2 k3
      refine ⟨z, ?_, m2⟩
      simp only [execOp, Instr.loadAt, Instr.sureAddr, q0, Sem.run_bind, Sem.run_pure, Result.andThen_ok, m1]
    · cases h
  case makeFunc fn first caps =>
    split at h
    · rename_i f l1 l2 h1 h2
      injection h with h
      injection h with h _
      subst h
      refine ⟨.func (.func f) (first.map a.eval) (caps.map a.eval), by simp [execOp, Instr.makeFunc], ?_⟩
      simp only [Rd]
      refine ⟨_, _, rfl, ?_, ?_⟩
      · rw [Array.toList_map]; exact listA_rd h1 (fun x hx => hρ x (by simp [Op.operands]; left; simpa using hx))
      · rw [Array.toList_map]; exact listA_rd h2 (fun x hx => hρ x (by simp [Op.operands]; right; simpa using hx))
    · cases h
  case call c =>
    obtain ⟨cal, args, tys⟩ := c
    simp only at h
    split at h
    · rename_i x ty' ha ht
      have ha : args = #[x] := by apply Array.ext'; simpa using ha
      have ht : tys = #[ty'] := by apply Array.ext'; simpa using ht
      subst ha ht
      split at h
      · rename_i s h1 h2
        injection h with h
        injection h with h _
        subst h
        have q := hρ x (by simp [Op.operands, Call.operands]) _ h2
        simp only [Rd] at q
        refine ⟨.int .i64 s.size, ?_, by simp [Rd]⟩
        have e1 := sort0_string (hT.srt h1)
        simp [execOp, resolve, invoke, builtin, q, Builtin.len_, run_underlying e1, goInt]
      · rename_i e tag sz rows h1 h2
        injection h with h
        injection h with h _
        subst h
        have q := hρ x (by simp [Op.operands, Call.operands]) _ h2
        simp only [Rd] at q
        obtain ⟨A, c, q0, _⟩ := q
        refine ⟨.int .i64 rows.length, ?_, by simp [Rd]⟩
        have e1 := sort0_slice (hT.srt h1)
        simp [execOp, resolve, invoke, builtin, q0, Builtin.len_, run_underlying e1, goInt]
      · cases h
    · cases h

end Go.Proofs.YtbcjcekoonebiaaGreat.Tl

set_option linter.unusedVariables false
set_option linter.unusedSimpArgs false
namespace Go.Proofs.YtbcjcekoonebiaaGreat.Tl
open Go Go.RowKit
def listV : List Value → Option (List AV)
  | [] => some []
  | v :: r => match ofVal1 v, listV r with
    | some x, some l => some (x :: l)
    | _, _ => none
theorem listV_rd {C : Cx} : ∀ {vs : List Value} {l : List AV}, listV vs = some l → RdL C l vs ∧ ∀ u ∈ vs, u.oneCell' = true
  | [], l, h => by simp [listV] at h; subst h; simp [RdL]
  | v :: r, l, h => by
    unfold listV at h
    split at h
    · rename_i x l' h1 h2
      injection h with h
      subst h
      obtain ⟨k1, k2⟩ := listV_rd h2
      refine ⟨by simp only [RdL]; exact ⟨(Rd.ofVal1 h1).1, k1⟩, fun u hu => ?_⟩
      rcases List.mem_cons.1 hu with rfl | hu
      · exact (Rd.ofVal1 (C := C) h1).2
      · exact k2 u hu
    · cases h

def zr (P : Program) (T : TypeId) : Option (List AV) :=
  match P.info? T with
  | some i => match i.zero with
    | some z => listV z.cells.toList
    | none => none
  | none => none
theorem zr_spec {P : Program} {T : TypeId} {l : List AV} (h : zr P T = some l) : ∃ i z, P.info? T = some i ∧ i.zero = some z ∧ listV z.cells.toList = some l ∧ ∀ w, (zeroValue T).run P w = .ok z w := by
  unfold zr at h
  split at h
  · rename_i i hi
    split at h
    · rename_i z hz
      exact ⟨i, z, hi, hz, h, fun w => by simp [zeroValue, typeInfo, hi, hz]⟩
    · cases h
  · cases h

def plcs (P : Program) (T : TypeId) : Option (List (Nat × Nat)) :=
  match P.underlying T with
  | some (.struct fields) => fields.toList.mapM (fun f => (P.info? f.type).map fun i => (f.offset, i.size))
  | _ => none

def spl (cells : List AV) (off : Nat) (l : List AV) : List AV := cells.take off ++ (l ++ cells.drop (off + l.length))

def fillA (places : List (Nat × Nat)) (ρ : Operand → Option AV) : List AV → List (Nat × Operand) → Option (List AV)
  | cells, [] => some cells
  | cells, (i, x) :: r => match places[i]?, ρ x with
    | some (off, n), some y => match cellsA y with
      | some l => if l.length = n ∧ off + n ≤ cells.length then fillA places ρ (spl cells off l) r else none
      | none => none
    | _, _ => none

def splV (cells : List Value) (off : Nat) (l : List Value) : List Value := cells.take off ++ (l ++ cells.drop (off + l.length))

theorem foldl_spl : ∀ (l : List Value) (off k : Nat) (cs : Array Value), off + k + l.length ≤ cs.size →
    ((l.zipIdx k).foldl (fun (cs : Array Value) (x : Value × Nat) => cs.setIfInBounds (off + x.2) x.1) cs).toList = splV cs.toList (off + k) l
  | [], off, k, cs, _ => by simp [splV]
  | v :: l, off, k, cs, h => by
    simp only [List.zipIdx_cons, List.foldl_cons]
    rw [foldl_spl l off (k + 1) _ (by simp at h ⊢; omega)]
    simp only [List.length_cons] at h
    have e := list_seg_step cs.toList (off + k) v l (by simp; omega)
    simp only [splV, Array.toList_setIfInBounds, List.length_cons]
    simpa [Nat.add_assoc, List.append_assoc] using e

theorem RdL.spl {C : Cx} {cells l : List AV} {vs us : List Value} (h : RdL C cells vs) (k : RdL C l us) (off : Nat) : RdL C (Tl.spl cells off l) (splV vs off us) := by
  unfold Tl.spl splV
  have h1 := h.extract 0 off
  have h2 := h.extract (off + l.length) cells.length
  rw [List.take_of_length_le (by simp), List.take_of_length_le (by have := h.length; simp; omega)] at h2
  rw [← k.length]
  simp only [List.drop_zero] at h1
  exact h1.append (k.append h2)
theorem mem_splV {vs us : List Value} {off : Nat} {u : Value} (h : u ∈ splV vs off us) : u ∈ vs ∨ u ∈ us := by
  unfold splV at h
  rcases List.mem_append.1 h with h | h
  · exact .inl (List.mem_of_mem_take h)
  · rcases List.mem_append.1 h with h | h
    · exact .inr h
    · exact .inl (List.mem_of_mem_drop h)

theorem fillA_rd {C : Cx} {a : Act} {places : List (Nat × Nat)} {ρ : Operand → Option AV} : ∀ {parts : List (Nat × Operand)} {cells l : List AV} {cs : Array Value},
    fillA places ρ cells parts = some l → (∀ p ∈ parts, ∀ y, ρ p.2 = some y → Rd C y (a.eval p.2)) → RdL C cells cs.toList → (∀ u ∈ cs.toList, u.oneCell' = true) →
    ∃ cs', Instr.fill (places.toArray[·]?) cs (parts.map fun p => (p.1, a.eval p.2)) = some cs' ∧ RdL C l cs'.toList ∧ ∀ u ∈ cs'.toList, u.oneCell' = true
  | [], cells, l, cs, h, _, hc, h1 => by
    simp only [fillA] at h
    injection h with h
    subst h
    exact ⟨cs, rfl, hc, h1⟩
  | (i, x) :: r, cells, l, cs, h, hρ, hc, h1 => by
    unfold fillA at h
    split at h
    · rename_i off n y hp hy
      split at h
      · rename_i lx hx
        split at h
        · rename_i hb
          have hr := hρ (i, x) (by simp) y hy
          obtain ⟨k1, k2⟩ := cellsA_rd hx hr
          have hl1 := k1.length
          have hl2 := hc.length
          simp only [Array.length_toList] at hl1 hl2
          have hz : ((a.eval x).cells.zipIdx.foldl (fun (cs : Array Value) (x : Value × Nat) => cs.setIfInBounds (off + x.2) x.1) cs).toList = splV cs.toList off (a.eval x).cells.toList := by
            have := foldl_spl (a.eval x).cells.toList off 0 cs (by simp; omega)
            simp only [Nat.add_zero] at this
            rw [← this, ← Array.foldl_toList]
            congr 1
            simp
          obtain ⟨cs', q1, q2, q3⟩ := fillA_rd (cs := (a.eval x).cells.zipIdx.foldl (fun (cs : Array Value) (x : Value × Nat) => cs.setIfInBounds (off + x.2) x.1) cs) h (fun p hp => hρ p (by simp [hp])) (by rw [hz]; exact hc.spl k1 off)
            (fun u hu => by rw [hz] at hu; rcases mem_splV hu with hu | hu; · exact h1 u hu
                            · exact k2 u hu)
          refine ⟨cs', ?_, q2, q3⟩
          have hpl : places.toArray[i]? = some (off, n) := by simpa using hp
          simp only [List.map_cons, Instr.fill, hpl]
          rw [if_neg (by simp only [ne_eq, Bool.or_eq_true, decide_eq_true_eq, not_or, Decidable.not_not]; omega)]
          exact q1
        · cases h
      · cases h
    · cases h

theorem OpS.build {P : Program} {o : Oper} {ρ : Operand → Option AV} {T : TypeId} {parts : Array (Nat × Operand)} (ho : o.op = .build T parts) {z l : List AV} {pl : List (Nat × Nat)}
    (hz : zr P T = some z) (hp : plcs P T = some pl) (hf : fillA pl ρ z parts.toList = some l) : OpS P o ρ [] [] (.agg l) := by
  refine OpS.val fun C a hI hρ hrd => ?_
  obtain ⟨i, zv, e1, e2, e3, _⟩ := zr_spec hz
  obtain ⟨k1, k2⟩ := listV_rd (C := C) e3
  obtain ⟨cs', q1, q2, q3⟩ := fillA_rd (C := C) (a := a) hf (fun p hp y hy => hρ p.2 (by
    rw [ho]
    simp only [Op.operands, List.mem_toArray, List.mem_map]
    exact ⟨p, hp, rfl⟩) y hy) k1 k2
  unfold plcs at hp
  split at hp
  · rename_i fields hu
    have hb : P.built T (parts.map fun x => (x.1, a.eval x.2)).toList = some cs' := by
      unfold Program.built
      simp only [e1, hu, e2, hp]
      simpa using q1
    refine ⟨.agg cs', ?_, by simp only [Rd]; exact ⟨cs', rfl, q2, q3⟩⟩
    unfold execOp
    simp only [ho, Sem.run_bind]
    have := run_build (P := P) C.w T (parts.map fun x => (x.1, a.eval x.2)) cs' hb
    simp only [this, Result.andThen_ok, Sem.run_pure]
  · cases hp

theorem OpS.newVar {P : Program} {o : Oper} {ρ : Operand → Option AV} {T : TypeId} (id : Nat) (cells : List AV)
    (hx : ∀ (C : Cx) (a : Act), (∀ x ∈ o.op.operands, ∀ y, ρ x = some y → Rd C y (a.eval x)) → ∃ cs : Array Value, RdL C cells cs.toList ∧ (∀ u ∈ cs.toList, u.oneCell' = true) ∧ (execOp a.eval o).run P C.w = .ok (.value (.pointer (some ⟨C.w.heap.size, 0, none⟩))) (C.w.alloc (.cells cs T))) :
    OpS P o ρ [] [(id, .box T cells)] (.ptr id 0) := by
  intro C a next Q hI hρ hrd hup hk
  obtain ⟨cs, h1, h2, h3⟩ := hx C a hρ
  have hH : C.H id = none := by
    have := hup (id, .box T cells) (by simp)
    simpa using this
  unfold Oper.wp
  rw [h3, Oper.upon_value]
  have hn := hI.new id hH cs T (.pointer (some ⟨C.w.heap.size, 0, none⟩)) (.box T cells) rfl (fun C' e hle hb hge => ⟨C.w.heap.size, cs, rfl, by subst e; exact hge, hb, h1.le hle, h2⟩)
  refine hk _ (.pointer (some ⟨C.w.heap.size, 0, none⟩)) hn.1 hn.2 rfl rfl rfl (fun id' u h => ?_) (fun p hp => ?_) ?_
  · by_cases e : id' = id
    · subst e; exact ⟨_, upd_same _ _ _⟩
    · exact ⟨u, by simpa only [upd_ne _ _ e] using h⟩
  · simp only [List.mem_singleton] at hp
    subst hp
    exact ⟨_, upd_same _ _ _⟩
  · simp only [Rd]
    exact ⟨C.w.heap.size, upd_same _ _ _, rfl⟩

theorem OpS.alloc {P : Program} {o : Oper} {ρ : Operand → Option AV} {T : TypeId} (ho : o.op = .alloc T) {z : List AV} (hz : zr P T = some z) (id : Nat) : OpS P o ρ [] [(id, .box T z)] (.ptr id 0) := by
  refine OpS.newVar id z fun C a _ => ?_
  obtain ⟨i, zv, e1, e2, e3, e4⟩ := zr_spec hz
  obtain ⟨k1, k2⟩ := listV_rd (C := C) e3
  refine ⟨zv.cells, k1, k2, ?_⟩
  unfold execOp
  simp only [ho, Instr.alloc, Sem.run_bind, e4, Result.andThen_ok, newVar, newRow]
  rfl

theorem OpS.box {P : Program} {o : Oper} {ρ : Operand → Option AV} {T : TypeId} {x : Operand} (ho : o.op = .box T x) {y : AV} (hy : ρ x = some y) {l : List AV} (hl : cellsA y = some l) (id : Nat) : OpS P o ρ [] [(id, .box T l)] (.ptr id 0) := by
  refine OpS.newVar id l fun C a hρ => ?_
  have hr := hρ x (by simp [ho, Op.operands]) y hy
  obtain ⟨k1, k2⟩ := cellsA_rd hl hr
  refine ⟨(a.eval x).cells, k1, k2, ?_⟩
  unfold execOp
  simp only [ho, Instr.box, newVar, newRow]
  rfl

theorem OpS.store {P : Program} {o : Oper} {ρ : Operand → Option AV} {T : TypeId} {x y : Operand} (ho : o.op = .store T x y) {id off : Nat} (hx : ρ x = some (.ptr id off)) {v : AV} (hy : ρ y = some v) {l : List AV} (hl : cellsA v = some l)
    {g : Bool} (hlay : lay P T = some (g, l.length)) {t : TypeId} {cells : List AV} (hb : off + l.length ≤ cells.length) : OpS P o ρ [(id, .box t cells)] [(id, .box t (spl cells off l))] .undef := by
  intro C a next Q hI hρ hrd hup hk
  have q := hρ x (by simp [ho, Op.operands]) _ hx
  have q' := hρ y (by simp [ho, Op.operands]) _ hy
  simp only [Rd] at q
  obtain ⟨b, q0, q1⟩ := q
  obtain ⟨k1, _⟩ := hrd (id, .box t cells) (by simp)
  simp only at k1
  obtain ⟨ob, k3, k4⟩ := hI.obj id _ q0
  rw [k1] at k3
  injection k3 with k3
  subst k3
  obtain ⟨b', cs, k5, k6, k7, k8, k9⟩ := k4
  injection k5 with k5
  injection k5 with k5
  injection k5 with k5 _ _
  subst k5
  obtain ⟨m1, m2⟩ := cellsA_rd hl q'
  obtain ⟨inf, hi, hs, hag, hsz⟩ := lay_spec hlay
  have hlc := k8.length
  have hll := m1.length
  simp only [Array.length_toList] at hlc hll
  have hst := run_storeCells_at P b off t (a.eval y).cells.toList 0 cs C.w k7 (by simp; omega) m2
  simp only [Nat.add_zero] at hst
  have hrun : (execOp a.eval o).run P C.w = .ok .skip (C.w.setRow b (splV cs.toList off (a.eval y).cells.toList).toArray) := by
    unfold execOp
    simp only [ho, Instr.storeAt, Instr.sureAddr, q1, Sem.run_bind, Sem.run_pure, Result.andThen_ok, storeVar, hsz]
    rw [if_neg (by simp; omega)]
    rw [hst]
    simp [splV]
  unfold Oper.wp
  rw [hrun, Oper.upon_skip]
  have hn := hI.wrote q0 k1 (spl cells off l) (splV cs.toList off (a.eval y).cells.toList).toArray (C.w.setRow b (splV cs.toList off (a.eval y).cells.toList).toArray)
    (setRow_heap C.w b cs _ t _ k7) (fun k hk' => setRow_other C.w b k _ hk') (by simp) rfl rfl rfl (by simpa using k8.spl m1 off) (fun u hu => by
      rcases mem_splV (by simpa using hu) with hu | hu
      · exact k9 u hu
      · exact m2 u hu)
  exact hk _ undef hn.1 hn.2 rfl rfl rfl (fun id' u h => ⟨u, h⟩) (fun p hp => by simp only [List.mem_singleton] at hp; subst hp; exact ⟨_, q0⟩) (by simp [Rd])

end Go.Proofs.YtbcjcekoonebiaaGreat.Tl

set_option linter.unusedVariables false
set_option linter.unusedSimpArgs false
namespace Go.Proofs.YtbcjcekoonebiaaGreat.Tl
open Go Go.RowKit
theorem own_rd {C : Cx} (hI : Inv C) {id : Nat} {e : TypeId} {sz n : Nat} {v : Value} (hG : C.G id = some v) (hH : C.H id = some (.row e sz n)) {rows : List (List AV)} (hn : rows.length = n) (hl : ∀ r ∈ rows, r.length = sz)
    {ys : List Value} (ho : C.w.ownsRow C.w0.heap.size e sz v n ys) (hr : RdL C rows.flatten ys) (h1 : ∀ u ∈ ys, u.oneCell' = true) : Rd C (.sl (.own id) sz rows) v := by
  subst hn
  simp only [Rd]
  have htag : TagP C id rows.length v := ⟨e, sz, rows.length, hH, Nat.le_refl _, fun _ => hG⟩
  rcases ho.2 with ⟨rfl, h0⟩ | ⟨g, cap, cur, rfl, hge, hg, hc, hm, hs, ht⟩
  · refine ⟨none, 0, by rw [h0], by omega, by omega, .inl (List.eq_nil_of_length_eq_zero h0), htag⟩
  · refine ⟨some ⟨g, 0, none⟩, cap, rfl, hc, by simp only [maxLen] at hm; omega, ?_, htag⟩
    right
    refine ⟨g, 0, rfl, RdR.unflat hl (RdC.mk hr h1 (fun j u hj => ?_) (fun j hj => ⟨?_, fun id' v' q1 q2 => ?_⟩))⟩
    · have := ho.cells (g := g) rfl j u hj
      rw [add_plain'] at this
      exact this
    · exact hI.okG id _ g hG rfl _
    · have : id' = id := hI.apart id' id v' _ g q1 hG q2 rfl
      subst this
      exact ⟨e, sz, _, hH, by rw [ho.1] at hj; omega⟩

theorem own_flat {C : Cx} {id : Nat} {e : TypeId} {sz n : Nat} {v : Value} {rows : List (List AV)} (hr : Rd C (.sl (.own id) sz rows) v) (hH : C.H id = some (.row e sz n)) (hn : rows.length = n)
    {xs : List Value} (ho : C.w.ownsRow C.w0.heap.size e sz v n xs) : C.G id = some v ∧ RdL C rows.flatten xs ∧ (∀ u ∈ xs, u.oneCell' = true) ∧ ∀ r ∈ rows, r.length = sz := by
  simp only [Rd] at hr
  obtain ⟨A, c, e0, _, _, h3, e1, sz1, m, t1, t2, t3⟩ := hr
  rw [hH] at t1
  injection t1 with t1
  injection t1 with _ _ t1
  subst t1
  refine ⟨t3 hn, ?_⟩
  rcases h3 with rfl | ⟨b, off, rfl, h3⟩
  · have : xs = [] := List.eq_nil_of_length_eq_zero (by rw [ho.1, ← hn]; simp)
    subst this
    simp [RdL]
  · obtain ⟨k1, k2⟩ := h3.flat
    obtain ⟨vs, q1, q2, q3⟩ := k1.vals
    rcases ho.2 with ⟨e2, h0⟩ | ⟨g, cap, cur, e2, hge, hg, hc, hm, hs, ht⟩
    · rw [e0] at e2
      injection e2 with e2
      cases e2
    · rw [e0] at e2
      injection e2 with e2 _ _
      injection e2 with e2
      injection e2 with e2 e3 _
      subst e2 e3
      have hv : vs = xs := by
        apply List.ext_getElem?
        intro j
        have hl : vs.length = xs.length := by rw [← q1.length, k2, hn, ho.1]
        by_cases hj : j < xs.length
        · have a1 := ho.cells (g := b) (by rw [e0]; rfl) j _ (List.getElem?_eq_getElem hj)
          have a2 := q3 j _ (List.getElem?_eq_getElem (by omega))
          rw [add_plain'] at a1
          rw [a1] at a2
          rw [List.getElem?_eq_getElem hj, List.getElem?_eq_getElem (by omega)]
          exact a2.symm
        · rw [List.getElem?_eq_none (by omega), List.getElem?_eq_none (by omega)]
      subst hv
      refine ⟨q1, q2, fun r hr => ?_⟩
      obtain ⟨i, hi⟩ := List.mem_iff_getElem?.1 hr
      exact (h3.get hi).1

theorem sl_vals {C : Cx} {tag : Tag} {sz : Nat} {rows : List (List AV)} {v : Value} (hr : Rd C (.sl tag sz rows) v) (hne : rows ≠ []) :
    ∃ b off c vs, v = .slice (some ⟨b, off, none⟩) rows.length c ∧ RdL C rows.flatten vs ∧ (∀ u ∈ vs, u.oneCell' = true) ∧ vs.length = rows.length * sz ∧ (∀ j u, vs[j]? = some u → C.w.cell? ((⟨b, off, none⟩ : Addr).add j) = some u) ∧ ∀ r ∈ rows, r.length = sz := by
  simp only [Rd] at hr
  obtain ⟨A, c, e0, _, _, h3, _⟩ := hr
  rcases h3 with h3 | ⟨b, off, rfl, h3⟩
  · exact absurd h3 hne
  · obtain ⟨k1, k2⟩ := h3.flat
    obtain ⟨vs, q1, q2, q3⟩ := k1.vals
    refine ⟨b, off, c, vs, e0, q1, q2, by rw [← q1.length, k2], fun j u hj => by rw [add_plain']; exact q3 j u hj, fun r hr => ?_⟩
    obtain ⟨i, hi⟩ := List.mem_iff_getElem?.1 hr
    exact (h3.get hi).1

def byt (P : Program) (e : TypeId) : Option Nat := (P.info? e).map (·.bytes)

theorem operands_append (t1 t2 : TypeId) (s x : Operand) {op : Op} (ho : op = .call { callee := .builtin .append, args := #[s, x], argTypes := #[t1, t2] }) : s ∈ op.operands ∧ x ∈ op.operands := by
  subst ho
  simp [Op.operands, Call.operands]

theorem OpS.append0 {P : Program} {o : Oper} {ρ : Operand → Option AV} {t : TypeId} {s x : Operand} (ho : o.op = .call { callee := .builtin .append, args := #[s, x], argTypes := #[t, t] })
    {e : TypeId} {sz : Nat} (he : elm P t = some (e, sz)) {tag tagx : Tag} {szs szx : Nat} {rows : List (List AV)} (hs : ρ s = some (.sl tag szs rows)) (hx : ρ x = some (.sl tagx szx [])) : OpS P o ρ [] [] (.sl tag szs rows) := by
  refine OpS.val fun C a hI hρ hrd => ?_
  obtain ⟨m1, m2⟩ := operands_append t t s x ho
  have q := hρ s m1 _ hs
  have q' := hρ x m2 _ hx
  refine ⟨a.eval s, ?_, q⟩
  simp only [Rd] at q q'
  obtain ⟨A, c, q0, hc, _⟩ := q
  obtain ⟨A', c', q0', _⟩ := q'
  obtain ⟨e1, i, e2, e3⟩ := elm_spec he
  have hlc : (rows.length ≤ c) = True := by simpa using hc
  have key : (Builtin.append_ #[t, t] o.type #[a.eval s, a.eval x]).run P C.w = .ok (a.eval s) C.w := by
    rw [q0, q0']
    cases A' with
    | none => cases A <;> simp [Builtin.append_, run_underlying e1, sizeOf, typeInfo, e2, Builtin.lenOf, hc, Builtin.firstCells, storeCells]
    | some a' => cases A <;> simp [Builtin.append_, run_underlying e1, sizeOf, typeInfo, e2, Builtin.lenOf, hc, Builtin.firstCells, loadCells, loadCellsFrom, storeCells]
  unfold execOp
  simp only [ho, resolve, invoke, builtin, Sem.run_bind, Sem.run_pure, Result.andThen_ok, List.map_toArray, List.map_cons, List.map_nil, key]

theorem OpS.append {P : Program} {o : Oper} {ρ : Operand → Option AV} {t : TypeId} {s x : Operand} (ho : o.op = .call { callee := .builtin .append, args := #[s, x], argTypes := #[t, t] })
    {e : TypeId} {sz : Nat} (he : elm P t = some (e, sz)) (hsz : 0 < sz) {z : List AV} (hz : zr P e = some z) (hzl : z.length = sz) {by_ : Nat} (hby : byt P e = some by_) {id : Nat} {tagx : Tag} {rows news : List (List AV)}
    (hs : ρ s = some (.sl (.own id) sz rows)) (hx : ρ x = some (.sl tagx sz news)) (hne : news ≠ []) (hb : (rows.length + news.length) * by_ ≤ 140737488355328) (hb2 : rows.length + news.length ≤ 9223372036854775807) :
    OpS P o ρ [(id, .row e sz rows.length)] [(id, .row e sz (rows.length + news.length))] (.sl (.own id) sz (rows ++ news)) := by
  intro C a next Q hI hρ hrd hup hk
  obtain ⟨m1, m2⟩ := operands_append t t s x ho
  have q := hρ s m1 _ hs
  have q' := hρ x m2 _ hx
  obtain ⟨e1, i, e2, e3⟩ := elm_spec he
  obtain ⟨i', zv, f1, f2, f3, _⟩ := zr_spec hz
  rw [e2] at f1
  injection f1 with f1
  subst f1
  obtain ⟨k1, kG⟩ := hrd (id, .row e sz rows.length) (by simp)
  simp only at k1 kG
  obtain ⟨gv, kG⟩ := kG
  obtain ⟨ob, k3, k4⟩ := hI.obj id _ kG
  rw [k1] at k3
  injection k3 with k3
  subst k3
  obtain ⟨_, xs, hown⟩ := k4
  have hGs : C.G id = some (a.eval s) := by
    have q2 := q
    simp only [Rd] at q2
    obtain ⟨A, c, _, _, _, _, e4, sz4, m, t1, t2, t3⟩ := q2
    rw [k1] at t1
    injection t1 with t1
    injection t1 with _ _ t1
    exact t3 t1
  rw [kG] at hGs
  injection hGs with hGs
  subst hGs
  obtain ⟨_, r1, r2, r3⟩ := own_flat q k1 rfl hown
  obtain ⟨b, off, c, vs, p0, p1, p2, p3, p4, p5⟩ := sl_vals q' hne
  have hm : 0 < news.length := List.length_pos_iff.2 hne
  have hzs : zv.cells.size = sz := by
    have := (listV_rd (C := C) f3).1.length
    simp at this
    omega
  have hbi : i.bytes = by_ := by simpa [byt, e2] using hby
  obtain ⟨v', w', hr, h2, h3, h4⟩ := run_app (P := P) C.w C.w0.heap.size t o.type e i zv sz by_ e1 e2 f2 e3 hbi hzs hsz (a.eval s) rows.length xs hown ⟨b, off, none⟩ news.length c vs p3 p4 p2 hm (by simp only [maxLen]; omega) hb hI.below.size
  have hn := hI.appended kG k1 hm w' xs vs hown h2 h3 h4
  have hrun : (execOp a.eval o).run P C.w = .ok (.value v') w' := by
    unfold execOp
    simp only [ho, resolve, invoke, builtin, Sem.run_bind, Sem.run_pure, Result.andThen_ok, List.map_toArray, List.map_cons, List.map_nil, p0, hr]
  unfold Oper.wp
  rw [hrun, Oper.upon_value]
  refine hk _ v' hn.1 hn.2 rfl rfl rfl (fun id' u h => ?_) (fun p hp => ?_) ?_
  · by_cases e' : id' = id
    · subst e'; exact ⟨_, upd_same _ _ _⟩
    · exact ⟨u, by simpa only [upd_ne _ _ e'] using h⟩
  · simp only [List.mem_singleton] at hp
    subst hp
    exact ⟨_, upd_same _ _ _⟩
  · refine own_rd hn.1 (e := e) (n := rows.length + news.length) (ys := xs ++ vs) (upd_same _ _ _) (upd_same _ _ _) (by simp) (fun r hr => ?_) h2 ?_ (fun u hu => ?_)
    · rcases List.mem_append.1 hr with h | h
      · exact r3 r h
      · exact p5 r h
    · rw [List.flatten_append]
      exact (r1.le hn.2).append (p1.le hn.2)
    · rcases List.mem_append.1 hu with h | h
      · exact r2 u h
      · exact p2 u h

theorem flat_len (sz : Nat) : ∀ (rs : List (List AV)), (∀ r ∈ rs, r.length = sz) → rs.flatten.length = rs.length * sz
  | [], _ => by simp
  | r :: rs, h => by
    have := flat_len sz rs (fun r hr => h r (by simp [hr]))
    simp only [List.flatten_cons, List.length_append, List.length_cons, Nat.add_mul, this, h r (by simp)]
    omega

theorem OpS.newRow {P : Program} {o : Oper} {ρ : Operand → Option AV} {e : TypeId} {sz : Nat} (hsz : 0 < sz) (id : Nat) (rows : List (List AV))
    (hx : ∀ (C : Cx) (a : Act), Inv C → (∀ x ∈ o.op.operands, ∀ y, ρ x = some y → Rd C y (a.eval x)) → ∃ (w' : World) (cs : Array Value) (ys : List Value) (cap : Nat), Below C.w.heap.size C.w w' ∧ w'.heap.size = C.w.heap.size ∧
      (execOp a.eval o).run P C.w = .ok (.value (.slice (some ⟨C.w.heap.size, 0, none⟩) rows.length cap)) (w'.alloc (.cells cs e)) ∧ RdL C rows.flatten ys ∧ (∀ u ∈ ys, u.oneCell' = true) ∧ (∀ r ∈ rows, r.length = sz) ∧ rows.length ≤ cap ∧ cap ≤ maxLen ∧ cs.size = cap * sz ∧ cs.toList.take (rows.length * sz) = ys) :
    OpS P o ρ [] [(id, .row e sz rows.length)] (.sl (.own id) sz rows) := by
  intro C a next Q hI hρ hrd hup hk
  obtain ⟨w', cs, ys, cap, hb, hsw, hr, h1, h2, h3, h4, h5, h6, h7⟩ := hx C a hI hρ
  have hH : C.H id = none := by
    have := hup (id, .row e sz rows.length) (by simp)
    simpa using this
  unfold Oper.wp
  rw [hr, Oper.upon_value]
  obtain ⟨hI1, hle1⟩ := hI.moved hb
  have hlen : ys.length = rows.length * sz := by
    rw [← h1.length]
    exact flat_len sz rows h3
  have hown : (w'.alloc (.cells cs e)).ownsRow C.w0.heap.size e sz (.slice (some ⟨C.w.heap.size, 0, none⟩) rows.length cap) rows.length ys :=
    ⟨hlen, .inr ⟨C.w.heap.size, cap, cs, rfl, hI.below.size, by rw [← hsw]; exact heap_alloc_new w' _, h4, h5, h6, h7⟩⟩
  have hn := hI1.new id hH cs e (.slice (some ⟨C.w.heap.size, 0, none⟩) rows.length cap) (.row e sz rows.length) (by rw [← hsw]; rfl) (fun C' e' hle hbk hge => by subst e'; exact ⟨hsz, ys, hown⟩)
  refine hk _ (.slice (some ⟨C.w.heap.size, 0, none⟩) rows.length cap) hn.1 (hle1.trans hn.2) rfl rfl rfl (fun id' u h => ?_) (fun p hp => ?_) ?_
  · by_cases e' : id' = id
    · subst e'; exact ⟨_, upd_same _ _ _⟩
    · exact ⟨u, by simpa only [upd_ne _ _ e'] using h⟩
  · simp only [List.mem_singleton] at hp
    subst hp
    exact ⟨_, upd_same _ _ _⟩
  · exact own_rd hn.1 (e := e) (n := rows.length) (ys := ys) (upd_same _ _ _) (upd_same _ _ _) rfl h3 hown ((h1.le hle1).le hn.2) h2
def seqA (ρ : Operand → Option AV) (sz : Nat) : Nat → List (Nat × Operand) → Option (List (List AV))
  | _, [] => some []
  | k, (i, x) :: r => if i = k then (match ρ x with
      | some y => match cellsA y with
        | some l => if l.length = sz then (seqA ρ sz (k + 1) r).map (l :: ·) else none
        | none => none
      | none => none) else none

theorem splV_tail (A Z l : List Value) (k : Nat) (hA : A.length = k) (hl : l.length ≤ Z.length) : splV (A ++ Z) k l = (A ++ l) ++ Z.drop l.length := by
  subst hA
  unfold splV
  rw [List.take_left, List.drop_append, List.drop_eq_nil_of_le (by omega), show A.length + l.length - A.length = l.length by omega]
  simp

theorem seqA_fill {C : Cx} {a : Act} {ρ : Operand → Option AV} {sz : Nat} : ∀ {parts : List (Nat × Operand)} {k : Nat} {rows : List (List AV)} {cs : Array Value} {A : List Value},
    seqA ρ sz k parts = some rows → (∀ p ∈ parts, ∀ y, ρ p.2 = some y → Rd C y (a.eval p.2)) → A.length = k * sz → (∃ Z, cs.toList = A ++ Z ∧ Z.length = parts.length * sz) →
    ∃ cs' ys, Instr.fill (fun i => some (i * sz, sz)) cs (parts.map fun p => (p.1, a.eval p.2)) = some cs' ∧ cs'.toList = A ++ ys ∧ RdL C rows.flatten ys ∧ (∀ u ∈ ys, u.oneCell' = true) ∧ (∀ r ∈ rows, r.length = sz) ∧ rows.length = parts.length
  | [], k, rows, cs, A, h, _, hA, ⟨Z, hZ, hZl⟩ => by
    simp only [seqA] at h
    injection h with h
    subst h
    have : Z = [] := List.eq_nil_of_length_eq_zero (by simpa using hZl)
    subst this
    exact ⟨cs, [], rfl, hZ, by simp [RdL], by simp, by simp, rfl⟩
  | (i, x) :: r, k, rows, cs, A, h, hρ, hA, ⟨Z, hZ, hZl⟩ => by
    unfold seqA at h
    split at h
    · rename_i hik
      subst hik
      split at h
      · rename_i y hy
        split at h
        · rename_i l hl
          split at h
          · rename_i hls
            simp only [Option.map_eq_some_iff] at h
            obtain ⟨rows', h', rfl⟩ := h
            have hr := hρ (i, x) (by simp) y hy
            obtain ⟨k1, k2⟩ := cellsA_rd hl hr
            have hll := k1.length
            simp only [Array.length_toList] at hll
            have hcs : cs.size = A.length + Z.length := by rw [← Array.length_toList, hZ, List.length_append]
            simp only [List.length_cons, Nat.add_mul, Nat.one_mul] at hZl
            have hz : ((a.eval x).cells.zipIdx.foldl (fun (cs : Array Value) (x : Value × Nat) => cs.setIfInBounds (i * sz + x.2) x.1) cs).toList = (A ++ (a.eval x).cells.toList) ++ Z.drop sz := by
              have := foldl_spl (a.eval x).cells.toList (i * sz) 0 cs (by simp; omega)
              simp only [Nat.add_zero] at this
              rw [hZ, splV_tail A Z _ (i * sz) hA (by simp; omega)] at this
              rw [show Z.drop sz = Z.drop (a.eval x).cells.toList.length by simp; rw [← hll, hls], ← this, ← Array.foldl_toList]
              congr 1
              simp
            obtain ⟨cs', ys, q1, q2, q3, q4, q5, q6⟩ := seqA_fill (a := a) (cs := (a.eval x).cells.zipIdx.foldl (fun (cs : Array Value) (x : Value × Nat) => cs.setIfInBounds (i * sz + x.2) x.1) cs) (A := A ++ (a.eval x).cells.toList) h' (fun p hp => hρ p (by simp [hp]))
              (by simp [Nat.add_mul]; omega) ⟨Z.drop sz, hz, by simp; omega⟩
            refine ⟨cs', (a.eval x).cells.toList ++ ys, ?_, by rw [q2, List.append_assoc], ?_, fun u hu => ?_, fun r hr => ?_, by simp [q6]⟩
            · simp only [List.map_cons, Instr.fill]
              rw [if_neg (by simp only [ne_eq, Bool.or_eq_true, decide_eq_true_eq, not_or, Decidable.not_not]; omega)]
              exact q1
            · rw [List.flatten_cons]; exact k1.append q3
            · rcases List.mem_append.1 hu with hu | hu
              · exact k2 u hu
              · exact q4 u hu
            · rcases List.mem_cons.1 hr with rfl | hr
              · exact hls
              · exact q5 r hr
          · cases h
        · cases h
      · cases h
    · cases h

theorem OpS.lit {P : Program} {o : Oper} {ρ : Operand → Option AV} {T : TypeId} {len : Nat} {parts : Array (Nat × Operand)} (ho : o.op = .buildSlice T len parts) {e : TypeId} {sz : Nat} (he : elm P T = some (e, sz)) (hsz : 0 < sz)
    {z : List AV} (hz : zr P e = some z) {rows : List (List AV)} (hs : seqA ρ sz 0 parts.toList = some rows) (hl : rows.length = len) (hb : len * sz ≤ 16777216) (id : Nat) : OpS P o ρ [] [(id, .row e sz rows.length)] (.sl (.own id) sz rows) := by
  refine OpS.newRow hsz id rows fun C a hI hρ => ?_
  obtain ⟨e1, i, e2, e3⟩ := elm_spec he
  obtain ⟨i', zv, f1, f2, f3, f4⟩ := zr_spec hz
  have hsize : ∀ w, (sizeOf e).run P w = .ok sz w := fun w => by simp [sizeOf, typeInfo, e2, e3]
  have hmem : ∀ p ∈ parts.toList, ∀ y, ρ p.2 = some y → Rd C y (a.eval p.2) := fun p hp y hy => hρ p.2 (by
    rw [ho]
    simp only [Op.operands, List.mem_toArray, List.mem_map]
    exact ⟨p, hp, rfl⟩) y hy
  have main : ∀ cs0 : Array Value, cs0.size = len * sz → ∃ cs' ys, Instr.fill (fun i => some (i * sz, sz)) cs0 (parts.toList.map fun p => (p.1, a.eval p.2)) = some cs' ∧ cs'.toList = ys ∧ RdL C rows.flatten ys ∧ (∀ u ∈ ys, u.oneCell' = true) ∧ (∀ r ∈ rows, r.length = sz) ∧ cs'.size = len * sz := by
    intro cs0 hc0
    have hpl : rows.length = parts.toList.length := seq_len hs
    obtain ⟨cs', ys, q1, q2, q3, q4, q5, q6⟩ := seqA_fill (C := C) (a := a) (cs := cs0) (A := []) hs hmem (by simp) ⟨cs0.toList, by simp, by rw [Array.length_toList, hc0, ← hl, hpl]⟩
    refine ⟨cs', ys, q1, by simpa using q2, q3, q4, q5, ?_⟩
    have : ys.length = rows.length * sz := by
      rw [← q3.length]
      exact flat_len sz rows q5
    rw [← Array.length_toList, q2, List.nil_append, this, hl]
  refine ⟨C.w, ?_⟩
  have hlm : rows.length ≤ maxLen := by
    have : len ≤ len * sz := Nat.le_mul_of_pos_right _ hsz
    simp only [maxLen]; omega
  by_cases h0 : len * sz = 0
  · obtain ⟨cs', ys, q1, q2, q3, q4, q5, q6⟩ := main ((Array.range (len * sz)).map ((#[] : Array Value)[· % (#[] : Array Value).size]!)) (by simp)
    refine ⟨cs', ys, rows.length, Below.refl _ _, rfl, ?_, q3, q4, q5, Nat.le_refl _, hlm, by rw [q6, hl], ?_⟩
    · unfold execOp
      simp only [ho]
      have hq : ((parts.map fun x => (x.1, a.eval x.2)).toList) = parts.toList.map fun p => (p.1, a.eval p.2) := by simp
      simp only [Instr.buildSlice, run_underlying e1, Sem.run_bind, Result.andThen_ok, hsize, h0, if_true, if_neg (show ¬ (0 > 2 ^ 24) by omega), Sem.run_pure, hq]
      rw [h0] at q1
      simp only [q1, Go.newRow, newObj]
      rw [hl]
      rfl
    · rw [q2]
      apply List.take_of_length_le
      rw [← q2, Array.length_toList, q6, hl]
      exact Nat.le_refl _
  · obtain ⟨cs', ys, q1, q2, q3, q4, q5, q6⟩ := main ((Array.range (len * sz)).map (zv.cells[· % zv.cells.size]!)) (by simp)
    refine ⟨cs', ys, rows.length, Below.refl _ _, rfl, ?_, q3, q4, q5, Nat.le_refl _, hlm, by rw [q6, hl], ?_⟩
    · unfold execOp
      simp only [ho]
      have hq : ((parts.map fun x => (x.1, a.eval x.2)).toList) = parts.toList.map fun p => (p.1, a.eval p.2) := by simp
      simp only [Instr.buildSlice, run_underlying e1, Sem.run_bind, Result.andThen_ok, hsize, h0, if_false, if_neg (show ¬ (len * sz > 2 ^ 24) by omega), Sem.run_pure, hq, f4, q1, Go.newRow, newObj]
      rw [hl]
      rfl
    · rw [q2]
      apply List.take_of_length_le
      rw [← q2, Array.length_toList, q6, hl]
      exact Nat.le_refl _
where
  seq_len {ρ : Operand → Option AV} {sz : Nat} : ∀ {parts : List (Nat × Operand)} {k : Nat} {rows : List (List AV)}, seqA ρ sz k parts = some rows → rows.length = parts.length
    | [], k, rows, h => by simp [seqA] at h; subst h; rfl
    | (i, x) :: r, k, rows, h => by
      unfold seqA at h
      split at h
      · split at h
        · split at h
          · split at h
            · simp only [Option.map_eq_some_iff] at h
              obtain ⟨rows', h', rfl⟩ := h
              simp [seq_len h']
            · cases h
          · cases h
        · cases h
      · cases h

end Go.Proofs.YtbcjcekoonebiaaGreat.Tl

set_option linter.unusedVariables false
set_option linter.unusedSimpArgs false
set_option linter.unusedSectionVars false
namespace Go.Proofs.YtbcjcekoonebiaaGreat.Tl
open Go Go.RowKit
def Pu (ok : Nat → Nat → Prop) (w : World) : Cx := ⟨w, fun b j => b < w.heap.size → ok b j, fun _ => none, fun _ => none, w⟩

def ACall (P : Program) (f : FuncId) (args : List AV) (res : AV) : Prop :=
  pureA res = true ∧ ∀ (ok : Nat → Nat → Prop) (w : World) (vs : Array Value), RdL (Pu ok w) args vs.toList →
    Calls P f vs w fun e w' => ∃ v, e = .returned v ∧ Rd (Pu (fun b j => b < w.heap.size → ok b j) w') res v ∧ Below w.heap.size w w'

def ACallH (P : Program) (f : FuncId) (args : List AV) (rd up : List (Nat × AObj)) (res : AV) : Prop :=
  ∀ (C : Cx) (vs : Array Value), Inv C → (∀ p ∈ rd, C.H p.1 = some p.2 ∧ ∃ u, C.G p.1 = some u) → RdL C args vs.toList →
    Calls P f vs C.w fun e w' => ∃ v C', e = .returned v ∧ C'.w = w' ∧ Inv C' ∧ Le C C' ∧ C'.w0 = C.w0 ∧ C'.ok0 = C.ok0 ∧ C'.H = updL C.H up ∧ (∀ id u, C.G id = some u → ∃ u', C'.G id = some u') ∧ Rd C' res v

theorem Inv.blk_lt {C : Cx} (hI : Inv C) {id : Nat} {v : Value} {b : Nat} (h : C.G id = some v) (hb : blk v = some b) : C.w0.heap.size ≤ b ∧ b < C.w.heap.size := by
  obtain ⟨o, _, h2⟩ := hI.obj id v h
  exact h2.blk hb

theorem Le0.ofOk {C C' : Cx} (h : ∀ b j u, C.ok b j → C.w.cell? ⟨b, j, none⟩ = some u → C'.ok b j ∧ C'.w.cell? ⟨b, j, none⟩ = some u) : Le0 C C' (fun _ => false) :=
  ⟨h, (fun _ q => by cases q), (fun _ q => by cases q), (fun _ q => by cases q)⟩
theorem pu_ok {ok : Nat → Nat → Prop} {w : World} {b j : Nat} (h : b < w.heap.size → ok b j) : (Pu ok w).ok b j := ⟨h, (fun id v q => by cases q)⟩

theorem pureL_in {C : Cx} {x : List AV} {v : List Value} (hp : pureL x = true) (h : RdL C x v) : RdL (Pu C.ok C.w) x v :=
  RdL.mono (Le0.ofOk fun b j u h1 h2 => ⟨pu_ok fun _ => h1, h2⟩) x v hp h

theorem pure_out {C : Cx} (hI : Inv C) {w' : World} (hb : Below C.w.heap.size C.w w') {x : AV} {v : Value} (hp : pureA x = true) (h : Rd (Pu (fun b j => b < C.w.heap.size → C.ok b j) w') x v) : Rd { C with w := w' } x v := by
  refine Rd.mono (C := Pu (fun b j => b < C.w.heap.size → C.ok b j) w') (C' := { C with w := w' }) (Le0.ofOk fun b j u h1 h2 => ⟨?_, h2⟩) x v hp h
  have hlt : b < w'.heap.size := cell_lt h2
  have h3 : b < C.w.heap.size → C.ok b j := h1.1 hlt
  by_cases hb2 : b < C.w.heap.size
  · exact h3 hb2
  · refine ⟨hI.fresh b j (by omega), fun id v q1 q2 => ?_⟩
    have := (hI.blk_lt q1 q2).2
    omega

def callable (P : Program) (f : FuncId) : Bool :=
  match P.funcs[f]? with
  | some fn => fn.body.isSome && fn.name != "runtime.NumGoroutine"
  | none => false

theorem run_callFunc {P : Program} {f : FuncId} (h : callable P f = true) (args : Array Value) (w : World) : (callFunc f args).run P w = .ok (.enter f args) w := by
  unfold callable at h
  split at h
  · rename_i fn hf
    simp only [Bool.and_eq_true, bne_iff_ne, ne_eq] at h
    obtain ⟨c, hc⟩ : ∃ c, fn.body = some c := by cases hb : fn.body with
      | none => rw [hb] at h; simp at h
      | some c => exact ⟨c, rfl⟩
    unfold callFunc
    simp [program, Sem.run, hf, hc, h.2]
  · cases h

theorem run_call {P : Program} {C : Cx} {a : Act} {o : Oper} {cf : Operand} {args : Array Operand} {tys : Array TypeId} (ho : o.op = .call { callee := .value cf, args := args, argTypes := tys }) {f : FuncId} {first caps : Array Value}
    (hf : a.eval cf = .func (.func f) first caps) (hc : callable P f = true) (w : World) : (execOp a.eval o).run P w = .ok (.enter f (first ++ args.map a.eval ++ caps)) w := by
  unfold execOp
  simp only [ho, resolve, hf, Deferred.ofValue, Sem.run_bind, Sem.run_pure, Result.andThen_ok, invoke, run_callFunc hc]

theorem mem_call {o : Oper} {cf : Operand} {args : Array Operand} {tys : Array TypeId} (ho : o.op = .call { callee := .value cf, args := args, argTypes := tys }) : cf ∈ o.op.operands ∧ ∀ x ∈ args.toList, x ∈ o.op.operands := by
  rw [ho]
  refine ⟨by simp [Op.operands, Call.operands], fun x hx => ?_⟩
  simp only [Op.operands, Call.operands, Array.mem_append]
  right
  simpa using hx

theorem OpS.call {P : Program} {o : Oper} {ρ : Operand → Option AV} {cf : Operand} {args : Array Operand} {tys : Array TypeId} (ho : o.op = .call { callee := .value cf, args := args, argTypes := tys }) {f : FuncId} {first caps : List AV}
    (hf : ρ cf = some (.func f first caps)) (hc : callable P f = true) {ags : List AV} (ha : listA ρ args.toList = some ags) {xs : List AV} (hx : puL (first ++ ags ++ caps) = xs) (hp : pureL xs = true) {res : AV} (h : ACall P f xs res) : OpS P o ρ [] [] res := by
  intro C a next Q hI hρ hrd hup hk
  obtain ⟨m1, m2⟩ := mem_call ho
  have q := hρ cf m1 _ hf
  simp only [Rd] at q
  obtain ⟨vs, us, q0, q1, q2⟩ := q
  have qa := listA_rd (C := C) (a := a) ha (fun x hx => hρ x (m2 x hx))
  unfold Oper.wp
  rw [run_call (C := C) ho q0 hc, Oper.upon_enter]
  have hall : RdL (Pu C.ok C.w) xs (vs ++ args.map a.eval ++ us).toList := by
    refine pureL_in hp ?_
    rw [← hx]
    refine RdL.pu _ _ ?_
    simp only [Array.toList_append, Array.toList_map]
    exact (q1.append qa).append q2
  refine (h.2 C.ok C.w _ hall).mono fun e w' hr => ?_
  obtain ⟨v, rfl, hv, hb⟩ := hr
  obtain ⟨hI', hle⟩ := hI.moved hb
  exact hk { C with w := w' } v hI' hle rfl rfl rfl (fun id u h => ⟨u, h⟩) (by simp) (pure_out hI hb h.1 hv)

/-! ### results -/
def resOne (tmps : Array Value) : ResultVar → Sem Value
  | .tmp t => pure (tmps.getD t undef)
  | .cell p t => do loadVar t (← asAddr (tmps.getD p undef))
theorem results_eq (fn : Func) (tmps : Array Value) : results fn tmps = (fn.results.mapM (resOne tmps)) >>= fun vs => pure (if h : vs.size = 1 then vs[0] else .tuple vs) := by
  unfold results
  refine congrArg (fun f => (fn.results.mapM f : Sem (Array Value)) >>= fun vs => (pure (if h : vs.size = 1 then vs[0] else Value.tuple vs) : Sem Value)) ?_
  funext rv
  cases rv <;> rfl
def Res1 (P : Program) (rv : ResultVar) (s : St) (x : AV) : Prop :=
  ∀ C a, Rel C s a → ∃ u, (resOne a.tmps rv).run P C.w = .ok u C.w ∧ Rd C x u

theorem Res1.tmp {P : Program} {t : Tmp} {s : St} {x : AV} (h : s.env t = some x) : Res1 P (.tmp t) s x := fun C a hr => ⟨_, rfl, hr.env t x h⟩
theorem Res1.cell {P : Program} {p : Tmp} {T : TypeId} {s : St} {id off : Nat} (h : s.env p = some (.ptr id off)) {t : TypeId} {cells : List AV} (hH : s.H id = some (.box t cells)) {g : Bool} {n : Nat} (hl : lay P T = some (g, n)) {x : AV} (hx : valA g n (cells.drop off) = some x) : Res1 P (.cell p T) s x := fun C a hr => by
  have q := hr.env p _ h
  simp only [Rd] at q
  obtain ⟨b, q0, q1⟩ := q
  obtain ⟨ob, k3, k4⟩ := hr.inv.obj id _ q0
  rw [hr.H, hH] at k3
  injection k3 with k3
  subst k3
  obtain ⟨b', cs, k5, k6, k7, k8, k9⟩ := k4
  injection k5 with k5
  injection k5 with k5
  injection k5 with k5 _ _
  subst k5
  obtain ⟨z, m1, m2⟩ := loadVar_cells (C := C) hl hx b off (cs.toList.drop off) (by
    have := k8.extract off cells.length
    rw [List.take_of_length_le (by simp), List.take_of_length_le (by have := k8.length; simp at this ⊢; omega)] at this
    exact this) (fun u hu => k9 u (List.mem_of_mem_drop hu)) (fun j u hj => by
    rw [cell_of k7]
    rw [List.getElem?_drop] at hj
    simpa using hj)
  refine ⟨z, ?_, m2⟩
  simp only [resOne, q1, asAddr, Sem.run_bind, Sem.run_pure, Result.andThen_ok, m1]

def ResA (P : Program) (fn : Func) (s : St) (x : AV) : Prop := ∀ C a, Rel C s a → ∃ u, (results fn a.tmps).run P C.w = .ok u C.w ∧ Rd C x u

theorem results_run {P : Program} {fn : Func} {tmps : Array Value} {w : World} : ∀ {rs : List ResultVar} {us : List Value}, us.length = rs.length → (∀ (i : Nat) (rv : ResultVar) (u : Value), rs[i]? = some rv → us[i]? = some u →
    (resOne tmps rv).run P w = .ok u w) →
    (rs.mapM (resOne tmps)).run P w = .ok us w
  | [], [], _, _ => by simp
  | [], _ :: _, h, _ => by simp at h
  | _ :: _, [], h, _ => by simp at h
  | rv :: rs, u :: us, hl, h => by
    have h0 := h 0 rv u (by simp) (by simp)
    have ih := results_run (P := P) (fn := fn) (tmps := tmps) (w := w) (rs := rs) (us := us) (by simpa using hl) (fun i rv u h1 h2 => h (i + 1) rv u (by simpa using h1) (by simpa using h2))
    simp only [List.mapM_cons, Sem.run_bind, h0, Result.andThen_ok, ih, Sem.run_pure]

def tupA : List AV → AV
  | [x] => x
  | l => .tup l

theorem ResA.mk {P : Program} {fn : Func} {s : St} {rs : List ResultVar} (hr : fn.results.toList = rs) {xs : List AV} (hl : xs.length = rs.length) (h : ∀ (i : Nat) (rv : ResultVar) (x : AV), rs[i]? = some rv → xs[i]? = some x → Res1 P rv s x) : ResA P fn s (tupA xs) := by
  intro C a hrel
  have hex : ∀ (rs : List ResultVar) (xs : List AV), xs.length = rs.length → (∀ (i : Nat) (rv : ResultVar) (x : AV), rs[i]? = some rv → xs[i]? = some x → Res1 P rv s x) →
      ∃ us : List Value, RdL C xs us ∧ us.length = rs.length ∧ ∀ (i : Nat) (rv : ResultVar) (u : Value), rs[i]? = some rv → us[i]? = some u →
        (resOne a.tmps rv).run P C.w = .ok u C.w := by
    intro rs
    induction rs with
    | nil => intro xs hl _; have : xs = [] := List.eq_nil_of_length_eq_zero (by simpa using hl); subst this; exact ⟨[], by simp [RdL], rfl, by simp⟩
    | cons rv rs ih =>
      intro xs hl h
      cases xs with
      | nil => simp at hl
      | cons x xs =>
        obtain ⟨u, h1, h2⟩ := h 0 rv x (by simp) (by simp) C a hrel
        obtain ⟨us, k1, k2, k3⟩ := ih xs (by simpa using hl) (fun i rv x h1 h2 => h (i + 1) rv x (by simpa using h1) (by simpa using h2))
        refine ⟨u :: us, by simp only [RdL]; exact ⟨h2, k1⟩, by simp [k2], fun i rv' u' h3 h4 => ?_⟩
        cases i with
        | zero => simp at h3 h4; subst h3 h4; exact h1
        | succ i => exact k3 i rv' u' (by simpa using h3) (by simpa using h4)
  obtain ⟨us, k1, k2, k3⟩ := hex rs xs hl h
  have hm := results_run (P := P) (fn := fn) (tmps := a.tmps) (w := C.w) k2 k3
  have hrun : (results fn a.tmps).run P C.w = .ok (if h : us.toArray.size = 1 then us.toArray[0] else .tuple us.toArray) C.w := by
    rw [results_eq, Array.mapM_eq_mapM_toList, hr]
    simp only [Sem.run_bind, map_eq_pure_bind, hm, Result.andThen_ok, Sem.run_pure]
  refine ⟨_, hrun, ?_⟩
  have hlu := k1.length
  match xs, us, k1, hlu with
  | [], [], k1, _ => simpa [tupA, Rd] using k1
  | [x], [u], k1, _ => simp only [RdL] at k1; simpa [tupA] using k1.1
  | x :: y :: xs, u :: v :: us, k1, _ =>
    simp only [tupA, Rd]
    exact ⟨_, by simp; rfl, by simpa using k1⟩

/-! ### bodies -/
mutual
def fz (H : Nat → Option AObj) : AV → AV
  | .ptr id off => match H id with | some (.box _ cells) => .ep ((puL cells).drop off) | _ => .ptr id off
  | .sl tag sz rows => .sl (match tag with | .own _ => .ro | t => t) sz (fzR H rows)
  | .mv id ver k => match k, H id with | .hdr, some (.arr _ sz cur rows) => if ver = cur then .sl .ro sz (puR rows) else .mv id ver k | _, _ => .mv id ver k
  | .ep cells => .ep (fzL H cells)
  | .func f first caps => .func f (fzL H first) (fzL H caps)
  | .agg cells => .agg (fzL H cells)
  | .tup vs => .tup (fzL H vs)
  | x => x
def fzL (H : Nat → Option AObj) : List AV → List AV
  | [] => []
  | x :: xs => fz H x :: fzL H xs
def fzR (H : Nat → Option AObj) : List (List AV) → List (List AV)
  | [] => []
  | r :: rs => fzL H r :: fzR H rs
end
theorem fzR_length (H : Nat → Option AObj) : ∀ rows, (fzR H rows).length = rows.length
  | [] => rfl
  | r :: rs => by simp [fzR, fzR_length H rs]
theorem fzL_length (H : Nat → Option AObj) : ∀ l, (fzL H l).length = l.length
  | [] => rfl
  | r :: rs => by simp [fzL, fzL_length H rs]

section
variable {C D : Cx} (hI : Inv C) (hw : D.w = C.w) (hok : ∀ b j, C.ok0 b j → D.ok b j)
include hI hw hok
theorem Rd.fz_ptr {id off : Nat} {v : Value} (hp : pureA (fz C.H (.ptr id off)) = true) (h : Rd C (.ptr id off) v) : Rd D (fz C.H (.ptr id off)) v := by
  simp only [Rd] at h
  obtain ⟨b, q0, q1⟩ := h
  obtain ⟨o, k3, k4⟩ := hI.obj id _ q0
  simp only [fz, k3] at hp ⊢
  cases o with
  | row e sz n => simp [pureA, inA] at hp
  | arr e sz ver rows => simp [pureA, inA] at hp
  | box t cells =>
    obtain ⟨b', cs, k5, k6, k7, k8, k9⟩ := k4
    injection k5 with k5
    injection k5 with k5
    injection k5 with k5 _ _
    subst k5
    simp only [pureA, inA] at hp
    have k10 := (RdL.pu _ _ k8).extract off (puL cells).length
    rw [List.take_of_length_le (by simp), List.take_of_length_le (by have := k8.length; rw [puL_length]; simp at this ⊢; omega)] at k10
    have k11 := RdL.mono (C := C) (C' := D) (Le0.ofOk fun b j u h1 h2 => ⟨hok b j h1.1, by rw [hw]; exact h2⟩) _ _ hp k10
    simp only [Rd]
    refine ⟨b, off, q1, RdC.mk k11 (fun u hu => k9 u (List.mem_of_mem_drop hu)) (fun j u hj => ?_) (fun j hj => hok b _ (hI.okG id _ b q0 rfl _))⟩
    rw [hw, cell_of k7]
    rw [List.getElem?_drop] at hj
    simpa using hj
theorem Rd.fz_mv {id ver : Nat} {k : MK} {v : Value} (hp : pureA (fz C.H (.mv id ver k)) = true) (h : Rd C (.mv id ver k) v) : Rd D (fz C.H (.mv id ver k)) v := by
  simp only [Rd] at h
  obtain ⟨_, e, sz, cur, rows, h1, _, h3⟩ := h
  cases k with
  | hdr =>
    by_cases hv : ver = cur
    · subst hv
      obtain ⟨g, g1, g2⟩ := h3 rfl
      simp only [fz, h1, if_true] at hp ⊢
      obtain ⟨o, k3, k4⟩ := hI.obj id g g1
      rw [h1] at k3
      injection k3 with k3
      subst k3
      obtain ⟨_, z2, xs, z3, z4, z5⟩ := k4
      simp only [Mat] at g2
      subst g2
      simp only [pureA, inA, Bool.true_and] at hp
      simp only [Rd]
      rcases z3.2 with ⟨rfl, hn⟩ | ⟨b, cap, cur', rfl, k6, k7, k8, k9, k10, k11⟩
      · have : rows = [] := List.eq_nil_of_length_eq_zero hn
        subst this
        exact ⟨none, 0, by simp [puR], by simp [puR], by simp [puR], .inl rfl, trivial⟩
      · refine ⟨_, cap, by rw [puR_length], by rw [puR_length]; exact k8, by rw [puR_length]; simp only [maxLen] at k9; omega, ?_, trivial⟩
        by_cases hr0 : rows = []
        · subst hr0; exact .inl (by simp [puR])
        right
        refine ⟨b, 0, rfl, RdR.unflat (fun r hr => ?_) ?_⟩
        · rw [puR_map] at hr
          obtain ⟨r', hr', rfl⟩ := List.mem_map.1 hr
          rw [List.length_map]; exact z2 r' hr'
        · have e1 : (puR rows).flatten = puL rows.flatten := by rw [puR_map, puL_map, List.map_flatten]
          rw [e1]
          have hp' : pureL (puL rows.flatten) = true := by
            have hp2 : inR (fun _ => false) (puR rows) = true := hp
            rw [inR_all] at hp2
            show inL (fun _ => false) (puL rows.flatten) = true
            rw [← e1, inL_all, List.all_flatten]
            exact hp2
          have k12 := RdL.mono (C := C) (C' := D) (Le0.ofOk fun b j u h1 h2 => ⟨hok b j h1.1, by rw [hw]; exact h2⟩) _ _ hp' (RdL.pu _ _ z4)
          refine RdC.mk k12 z5 (fun j u hj => ?_) (fun j hj => hok b _ (hI.okG id _ b g1 rfl _))
          have := z3.cells (g := b) rfl j u hj
          rw [hw]
          have hadd : (⟨b, 0, none⟩ : Addr).add j = ⟨b, 0 + j, none⟩ := by unfold Addr.add; split <;> simp_all
          rw [hadd] at this
          exact this
    · simp only [fz, h1, if_neg hv, pureA, inA] at hp
      cases hp
  | view lo n nn => simp only [fz, pureA, inA] at hp; cases hp
  | cell off => simp only [fz, pureA, inA] at hp; cases hp
mutual
theorem Rd.fz : ∀ (x : AV) (v : Value), pureA (Tl.fz C.H x) = true → Rd C x v → Rd D (Tl.fz C.H x) v
  | .undef, v, _, h => by simp [Tl.fz, Rd]
  | .bool _, v, _, h => by simpa [Tl.fz, Rd] using h
  | .int _ _, v, _, h => by simpa [Tl.fz, Rd] using h
  | .str _, v, _, h => by simpa [Tl.fz, Rd] using h
  | .nilp, v, _, h => by simpa [Tl.fz, Rd] using h
  | .nilf, v, _, h => by simpa [Tl.fz, Rd] using h
  | .ptr id off, v, hp, h => Rd.fz_ptr hI hw hok hp h
  | .mv id ver k, v, hp, h => Rd.fz_mv hI hw hok hp h
  | .ep cells, v, hp, h => by
    simp only [Tl.fz, Rd, pureA, inA] at hp h ⊢
    obtain ⟨b, off, e, h⟩ := h
    exact ⟨b, off, e, RdC.fz cells b off hp h⟩
  | .sl tag sz rows, v, hp, h => by
    simp only [Tl.fz, Rd, fzR_length, pureA, inA, Bool.and_eq_true] at hp h ⊢
    obtain ⟨A, c, e, h1, h2, h3, h4⟩ := h
    refine ⟨A, c, e, h1, h2, ?_, ?_⟩
    · rcases h3 with rfl | ⟨b, off, e2, h3⟩
      · exact .inl rfl
      · exact .inr ⟨b, off, e2, RdR.fz sz rows b off hp.2 h3⟩
    · cases tag <;> simp_all
  | .func f first caps, v, hp, h => by
    simp only [Tl.fz, Rd, pureA, inA, Bool.and_eq_true] at hp h ⊢
    obtain ⟨vs, us, e, h1, h2⟩ := h
    exact ⟨vs, us, e, RdL.fz first _ hp.1 h1, RdL.fz caps _ hp.2 h2⟩
  | .agg cells, v, hp, h => by
    simp only [Tl.fz, Rd, pureA, inA] at hp h ⊢
    obtain ⟨vs, e, h1, h2⟩ := h
    exact ⟨vs, e, RdL.fz cells _ hp h1, h2⟩
  | .tup vs, v, hp, h => by
    simp only [Tl.fz, Rd, pureA, inA] at hp h ⊢
    obtain ⟨us, e, h1⟩ := h
    exact ⟨us, e, RdL.fz vs _ hp h1⟩
theorem RdC.fz : ∀ (xs : List AV) (b off : Nat), pureL (fzL C.H xs) = true → RdC C xs b off → RdC D (fzL C.H xs) b off
  | [], _, _, _, _ => by simp [fzL, RdC]
  | x :: xs, b, off, hp, h => by
    simp only [fzL, RdC, pureL, inL, Bool.and_eq_true] at hp h ⊢
    obtain ⟨h1, ⟨u, h2, h3, h4⟩, h5⟩ := h
    exact ⟨hok _ _ h1.1, ⟨u, by rw [hw]; exact h2, h3, Rd.fz x u hp.1 h4⟩, RdC.fz xs b (off + 1) hp.2 h5⟩
theorem RdR.fz (sz : Nat) : ∀ (rs : List (List AV)) (b off : Nat), pureR (fzR C.H rs) = true → RdR C sz rs b off → RdR D sz (fzR C.H rs) b off
  | [], _, _, _, _ => by simp [fzR, RdR]
  | r :: rs, b, off, hp, h => by
    simp only [fzR, RdR, fzL_length, pureR, inR, Bool.and_eq_true] at hp h ⊢
    exact ⟨h.1, RdC.fz r b off hp.1 h.2.1, RdR.fz sz rs b (off + sz) hp.2 h.2.2⟩
theorem RdL.fz : ∀ (xs : List AV) (vs : List Value), pureL (fzL C.H xs) = true → RdL C xs vs → RdL D (fzL C.H xs) vs
  | [], [], _, _ => by simp [fzL, RdL]
  | [], _ :: _, _, h => by simp [RdL] at h
  | _ :: _, [], _, h => by simp [RdL] at h
  | x :: xs, v :: vs, hp, h => by
    simp only [fzL, RdL, pureL, inL, Bool.and_eq_true] at hp h ⊢
    exact ⟨Rd.fz x v hp.1 h.1, RdL.fz xs vs hp.2 h.2⟩
end
end
mutual
def Wk : AV → AV → Prop
  | .int k n, .int k' n' => k = k' ∧ n = n'
  | .bool b, .bool b' => b = b'
  | .str s, .str s' => s = s'
  | .sl tag sz rows, .sl tag' sz' rows' => (tag' = tag ∨ (tag = .nil ∧ tag' = .ro)) ∧ rows = rows' ∧ (sz = sz' ∨ rows = [])
  | .agg l, .agg l' => WkL l l'
  | .tup l, .tup l' => WkL l l'
  | x, y => x = y
def WkL : List AV → List AV → Prop
  | [], [] => True
  | x :: xs, y :: ys => Wk x y ∧ WkL xs ys
  | _, _ => False
end
mutual
theorem Wk.rd {C : Cx} : ∀ (x y : AV) (v : Value), Wk x y → Rd C x v → Rd C y v
  | .int k n, y, v, h, hr => by cases y <;> simp only [Wk] at h <;> first | (obtain ⟨rfl, rfl⟩ := h; exact hr) | cases h
  | .bool b, y, v, h, hr => by cases y <;> simp only [Wk] at h <;> first | (subst h; exact hr) | cases h
  | .str b, y, v, h, hr => by cases y <;> simp only [Wk] at h <;> first | (subst h; exact hr) | cases h
  | .sl tag sz rows, y, v, h, hr => by
    cases y <;> simp only [Wk] at h <;> first | cases h; done | skip
    obtain ⟨h1, rfl, h3⟩ := h
    simp only [Rd] at hr ⊢
    obtain ⟨A, c, e, k1, k2, k3, k4⟩ := hr
    refine ⟨A, c, e, k1, k2, ?_, ?_⟩
    · rcases h3 with rfl | rfl
      · exact k3
      · exact .inl rfl
    · rcases h1 with rfl | ⟨rfl, rfl⟩
      · exact k4
      · trivial
  | .agg l, y, v, h, hr => by
    cases y <;> simp only [Wk] at h <;> first | cases h; done | skip
    simp only [Rd] at hr ⊢
    obtain ⟨vs, e, k1, k2⟩ := hr
    exact ⟨vs, e, WkL.rd l _ _ h k1, k2⟩
  | .tup l, y, v, h, hr => by
    cases y <;> simp only [Wk] at h <;> first | cases h; done | skip
    simp only [Rd] at hr ⊢
    obtain ⟨vs, e, k1⟩ := hr
    exact ⟨vs, e, WkL.rd l _ _ h k1⟩
  | .undef, y, v, h, hr => by cases y <;> simp only [Wk] at h <;> first | exact hr | cases h
  | .nilp, y, v, h, hr => by cases y <;> simp only [Wk] at h <;> first | exact hr | cases h
  | .nilf, y, v, h, hr => by cases y <;> simp only [Wk] at h <;> first | exact hr | cases h
  | .ptr _ _, y, v, h, hr => by cases y <;> simp only [Wk] at h <;> first | (rw [← h]; exact hr) | cases h
  | .mv _ _ _, y, v, h, hr => by cases y <;> simp only [Wk] at h <;> first | (rw [← h]; exact hr) | cases h
  | .ep _, y, v, h, hr => by cases y <;> simp only [Wk] at h <;> first | (rw [← h]; exact hr) | cases h
  | .func _ _ _, y, v, h, hr => by cases y <;> simp only [Wk] at h <;> first | (rw [← h]; exact hr) | cases h
theorem WkL.rd {C : Cx} : ∀ (xs ys : List AV) (vs : List Value), WkL xs ys → RdL C xs vs → RdL C ys vs
  | [], [], _, _, hr => hr
  | [], _ :: _, _, h, _ => by simp [WkL] at h
  | _ :: _, [], _, h, _ => by simp [WkL] at h
  | _ :: _, _ :: _, [], _, hr => by simp [RdL] at hr
  | x :: xs, y :: ys, v :: vs, h, hr => by
    simp only [WkL, RdL] at h hr ⊢
    exact ⟨Wk.rd x y v h.1 hr.1, WkL.rd xs ys vs h.2 hr.2⟩
end
mutual
theorem Wk.pure : ∀ (x y : AV), Wk x y → pureA y = true → pureA x = true
  | .int k n, y, h, hp => rfl
  | .bool b, y, h, hp => rfl
  | .str b, y, h, hp => rfl
  | .undef, y, h, hp => rfl
  | .nilp, y, h, hp => rfl
  | .nilf, y, h, hp => rfl
  | .sl tag sz rows, y, h, hp => by
    cases y <;> simp only [Wk] at h <;> first | cases h; done | skip
    obtain ⟨h1, rfl, h3⟩ := h
    simp only [pureA, inA, Bool.and_eq_true] at hp ⊢
    refine ⟨?_, hp.2⟩
    rcases h1 with rfl | ⟨rfl, rfl⟩
    · exact hp.1
    · rfl
  | .agg l, y, h, hp => by
    cases y <;> simp only [Wk] at h <;> first | cases h; done | skip
    simp only [pureA, inA] at hp ⊢
    exact WkL.pure l _ h hp
  | .tup l, y, h, hp => by
    cases y <;> simp only [Wk] at h <;> first | cases h; done | skip
    simp only [pureA, inA] at hp ⊢
    exact WkL.pure l _ h hp
  | .ptr _ _, y, h, hp => by cases y <;> simp only [Wk] at h <;> first | (rw [h]; exact hp) | cases h
  | .mv _ _ _, y, h, hp => by cases y <;> simp only [Wk] at h <;> first | (rw [h]; exact hp) | cases h
  | .ep _, y, h, hp => by cases y <;> simp only [Wk] at h <;> first | (rw [h]; exact hp) | cases h
  | .func _ _ _, y, h, hp => by cases y <;> simp only [Wk] at h <;> first | (rw [h]; exact hp) | cases h
theorem WkL.pure : ∀ (xs ys : List AV), WkL xs ys → pureL ys = true → pureL xs = true
  | [], _, _, _ => rfl
  | _ :: _, [], h, _ => by simp [WkL] at h
  | x :: xs, y :: ys, h, hp => by
    simp only [WkL] at h
    simp only [pureL, inL, Bool.and_eq_true] at hp ⊢
    exact ⟨Wk.pure x y h.1 hp.1, WkL.pure xs ys h.2 hp.2⟩
end

def RetQ (P : Program) (fn : Func) (res : AV) (e : Exit) (s : St) : Prop := (e = .normal ∨ e = .ret) ∧ ∃ r, ResA P fn s r ∧ Wk (fz s.H r) res

def argE (args : List AV) : Nat → Option AV := fun i => args[i]?

theorem enter_rel {C : Cx} (hI : Inv C) {args : List AV} {vs : Array Value} (h : RdL C args vs.toList) {n : Nat} (hn : args.length ≤ n) (hreal : ∀ id o, C.H id = some o → ∃ v, C.G id = some v) :
    Rel C ⟨n, argE args, C.H⟩ { tmps := vs ++ Array.replicate (n - vs.size) undef, defers := [] } := by
  have hl := h.length
  simp only [Array.length_toList] at hl
  refine ⟨hI, rfl, hreal, fun d v hd => ?_, by simp; omega, rfl⟩
  obtain ⟨u, h1, h2⟩ := h.get hd
  have h1 : vs[d]? = some u := by simpa using h1
  have hlt : d < vs.size := (Array.getElem?_eq_some_iff.1 h1).1
  rw [Array.getD_eq_getD_getElem?, Array.getElem?_append_left hlt, h1]
  exact h2

theorem inv_pu (ok : Nat → Nat → Prop) (w : World) : Inv (Pu ok w) := ⟨Below.refl _ _, (fun id v h => by cases h), (fun _ _ _ _ _ h => by cases h), (fun b j h q => by have h' : w.heap.size ≤ b := h; omega), (fun _ _ _ h => by cases h)⟩

theorem ACall.body {P : Program} {f : FuncId} {fn : Func} {c : Code} {args : List AV} {res : AV} (hf : P.funcs[f]? = some fn) (hb : fn.body = some c) (hn : args.length ≤ fn.ntmps) (hp : pureA res = true)
    (h : AW P (fun _ => false) c (RetQ P fn res) ⟨fn.ntmps, argE args, fun _ => none⟩) : ACall P f args res := by
  refine ⟨hp, fun ok w vs hr => calls_of_wp hf hb ?_⟩
  have hrel := enter_rel (inv_pu ok w) hr hn (fun id o h => by cases h)
  refine wp_mono (h _ _ hrel) (fun e a w' hl => ?_)
  obtain ⟨s', C', q, r, rfl, e0, e1, l⟩ := hl
  obtain ⟨he, x, hx, hwk⟩ := q
  obtain ⟨u, h1, h2⟩ := hx C' a r
  have hfin : Rd (Pu (fun b j => b < w.heap.size → ok b j) C'.w) res u := by
    refine Wk.rd _ _ _ hwk ?_
    have hp := Wk.pure _ _ hwk hp
    rw [← r.H] at hp ⊢
    refine Rd.fz (D := Pu (fun b j => b < w.heap.size → ok b j) C'.w) r.inv rfl (fun b j k => pu_ok fun _ => ?_) x u hp h2
    rw [e1] at k
    exact k
  have hbel : Below w.heap.size w C'.w := by
    have := r.inv.below
    rw [e0] at this
    exact this
  rcases he with rfl | rfl
  · exact ⟨r.defers, u, h1, u, rfl, hfin, hbel⟩
  · exact ⟨r.defers, u, h1, u, rfl, hfin, hbel⟩

def RetH (P : Program) (fn : Func) (res : AV) (rd up : List (Nat × AObj)) (e : Exit) (s : St) : Prop :=
  (e = .normal ∨ e = .ret) ∧ (∃ r, ResA P fn s r ∧ ∀ (C : Cx) (v : Value), Rd C r v → Rd C res v) ∧ ∀ p ∈ rd, s.H p.1 = updL (updL (fun _ => none) rd) up p.1

def idsIn (rd : List (Nat × AObj)) (id : Nat) : Bool := rd.any (fun p => p.1 == id)

theorem updL_ids {β : Type} {H : Nat → Option β} : ∀ {up : List (Nat × β)} {id : Nat}, (∀ p ∈ up, p.1 ≠ id) → updL H up id = H id
  | [], _, _ => rfl
  | p :: r, id, h => by
    simp only [updL]
    rw [updL_ids (fun q hq => h q (by simp [hq])), upd_ne _ _ (fun e => h p (by simp) e.symm)]
theorem updL_congr {β : Type} {H H' : Nat → Option β} : ∀ {up : List (Nat × β)} {id : Nat}, H id = H' id → updL H up id = updL H' up id
  | [], _, h => h
  | p :: r, id, h => by
    simp only [updL]
    refine updL_congr ?_
    by_cases e : id = p.1
    · subst e; simp [upd_same]
    · simp [upd_ne _ _ e, h]

theorem idsIn_iff {rd : List (Nat × AObj)} {id : Nat} : idsIn rd id = true ↔ ∃ o, (id, o) ∈ rd := by
  simp only [idsIn, List.any_eq_true, beq_iff_eq]
  constructor
  · rintro ⟨p, hp, rfl⟩; exact ⟨p.2, hp⟩
  · rintro ⟨o, ho⟩; exact ⟨(id, o), ho, rfl⟩

theorem inR_flat {S : Nat → Bool} {rows : List (List AV)} (h : inR S rows = true) : inL S rows.flatten = true := by
  rw [inL_all, List.all_flatten]
  rw [inR_all] at h
  exact h

theorem ACallH.body {P : Program} {f : FuncId} {fn : Func} {c : Code} {args : List AV} {res : AV} {rd up : List (Nat × AObj)} (hf : P.funcs[f]? = some fn) (hb : fn.body = some c) (hn : args.length ≤ fn.ntmps)
    (ha : inL (idsIn rd) args = true) (hrd : ∀ p ∈ rd, inO (idsIn rd) p.2 = true) (hu : ∀ p ∈ up, idsIn rd p.1 = true ∧ inO (idsIn rd) p.2 = true) (hr : inA (idsIn rd) res = true)
    (h : AW P (idsIn rd) c (RetH P fn res rd up) ⟨fn.ntmps, argE args, updL (fun _ => none) rd⟩) : ACallH P f args rd up res := by
  intro C vs hI hC hargs
  -- what the callee sees
  have hval : ∀ id, idsIn rd id = true → updL (fun _ => none) rd id = C.H id := by
    intro id hid
    have key : ∀ (l : List (Nat × AObj)) (H : Nat → Option AObj), (∀ p ∈ l, C.H p.1 = some p.2) → (H id = C.H id ∨ ∃ o, (id, o) ∈ l) → updL H l id = C.H id := by
      intro l
      induction l with
      | nil => intro H _ h; rcases h with h | ⟨o, h⟩; · exact h
               · cases h
      | cons p r ih =>
        intro H hl h
        simp only [updL]
        refine ih _ (fun q hq => hl q (by simp [hq])) ?_
        by_cases e : id = p.1
        · left; subst e; rw [upd_same]; exact (hl p (by simp)).symm
        · rcases h with h | ⟨o, h⟩
          · left; rw [upd_ne _ _ e]; exact h
          · rcases List.mem_cons.1 h with h | h
            · exact absurd (congrArg Prod.fst h) e
            · exact .inr ⟨o, h⟩
    exact key rd _ (fun p hp => (hC p hp).1) (.inr (idsIn_iff.1 hid))
  have hnone : ∀ id, idsIn rd id = false → updL (fun _ => none) rd id = (none : Option AObj) := fun id hid => updL_ids fun p hp e => by
    have : idsIn rd id = true := idsIn_iff.2 ⟨p.2, by rw [← e]; exact hp⟩
    rw [hid] at this; cases this
  let G1 : Nat → Option Value := fun id => if idsIn rd id = true then C.G id else none
  let ok1 : Nat → Nat → Prop := fun b j => C.ok0 b j ∧ ∀ id v, idsIn rd id = false → C.G id = some v → blk v = some b → ∃ e sz n, C.H id = some (.row e sz n) ∧ j < n * sz
  let C1 : Cx := ⟨C.w0, ok1, updL (fun _ => none) rd, G1, C.w⟩
  have hG1 : ∀ id v, G1 id = some v → idsIn rd id = true ∧ C.G id = some v := fun id v h => by
    simp only [G1] at h
    split at h
    · rename_i q; exact ⟨q, h⟩
    · cases h
  have hG1' : ∀ id, idsIn rd id = true → G1 id = C.G id := fun id h => by simp only [G1, h, if_true]
  have hok1 : ∀ b j, C.ok b j → C1.ok b j := fun b j h => ⟨⟨h.1, fun id v _ q1 q2 => h.2 id v q1 q2⟩, fun id v q1 q2 => by
    obtain ⟨k1, k2⟩ := hG1 id v q1
    obtain ⟨e, sz, n, k3, k4⟩ := h.2 id v k2 q2
    exact ⟨e, sz, n, by show updL (fun _ => none) rd id = _; rw [hval id k1]; exact k3, k4⟩⟩
  have hl01 : Le0 C C1 (idsIn rd) := by
    refine ⟨fun b j u h1 h2 => ⟨hok1 b j h1, h2⟩, fun id hid b h => ?_, fun id hid n v h => ?_, fun id hid n z v h => ?_⟩
    · show G1 id = _; rw [hG1' id hid]; exact h
    · obtain ⟨e, sz, m, t1, t2, t3⟩ := h
      exact ⟨e, sz, m, by show updL (fun _ => none) rd id = _; rw [hval id hid]; exact t1, t2, fun q => by show G1 id = _; rw [hG1' id hid]; exact t3 q⟩
    · obtain ⟨sh, e, sz, m, rs, t1, t2, t3⟩ := h
      exact ⟨sh, e, sz, m, rs, by show updL (fun _ => none) rd id = _; rw [hval id hid]; exact t1, t2, fun q => by show ∃ g, G1 id = _ ∧ _; rw [hG1' id hid]; exact t3 q⟩
  have hI1 : Inv C1 := by
    refine ⟨hI.below, fun id v h => ?_, fun id id' v v' b h1 h2 h3 h4 => hI.apart id id' v v' b (hG1 id v h1).2 (hG1 id' v' h2).2 h3 h4, fun b j h => ⟨hI.fresh b j h, fun id v _ q1 q2 => ?_⟩, fun id v b h1 h2 j => ⟨hI.okG id v b (hG1 id v h1).2 h2 j, fun id' v' q0 q1 q2 => ?_⟩⟩
    · obtain ⟨k1, k2⟩ := hG1 id v h
      obtain ⟨o, k3, k4⟩ := hI.obj id v k2
      refine ⟨o, by show updL (fun _ => none) rd id = _; rw [hval id k1]; exact k3, ?_⟩
      cases o with
      | box t cells =>
        obtain ⟨b, cs, q1, q2, q3, q4, q5⟩ := k4
        obtain ⟨ob, hob⟩ := idsIn_iff.1 k1
        have := (hC _ hob).1
        simp only at this
        rw [k3] at this
        injection this with this
        have hin := hrd _ hob
        simp only at hin
        rw [← this] at hin
        exact ⟨b, cs, q1, q2, q3, RdL.mono hl01 _ _ hin q4, q5⟩
      | row e sz n => exact k4
      | arr e sz ver rows =>
        obtain ⟨q1, q2, xs, q3, q4, q5⟩ := k4
        obtain ⟨ob, hob⟩ := idsIn_iff.1 k1
        have := (hC _ hob).1
        simp only at this
        rw [k3] at this
        injection this with this
        have hin := hrd _ hob
        simp only at hin
        rw [← this] at hin
        exact ⟨q1, q2, xs, q3, RdL.mono hl01 _ _ (inR_flat hin) q4, q5⟩
    · have h' : C.w.heap.size ≤ b := h
      have := (hI.blk_lt q1 q2).2
      omega
    · have := hI.apart id id' v v' b (hG1 id v h1).2 q1 h2 q2
      rw [← this, (hG1 id v h1).1] at q0
      cases q0
  have hreal : ∀ id o, C1.H id = some o → ∃ v, C1.G id = some v := fun id o h => by
    by_cases hid : idsIn rd id = true
    · obtain ⟨ob, hob⟩ := idsIn_iff.1 hid
      obtain ⟨_, u, hu⟩ := hC _ hob
      exact ⟨u, by show G1 id = _; rw [hG1' id hid]; exact hu⟩
    · have : C1.H id = none := hnone id (by simpa using hid)
      rw [this] at h; cases h
  refine calls_of_wp hf hb ?_
  have hrel := enter_rel (C := C1) hI1 (RdL.mono hl01 _ _ ha hargs) hn hreal
  refine wp_mono (h C1 _ hrel) (fun e a w' hl => ?_)
  obtain ⟨s', D, q, r, rfl, e0, e1, l⟩ := hl
  obtain ⟨he, ⟨x, hx, himp⟩, hH⟩ := q
  obtain ⟨u, h1, h2⟩ := hx D a r
  -- what the caller has back
  let G' : Nat → Option Value := fun id => if idsIn rd id = true then D.G id else C.G id
  let C' : Cx := ⟨C.w0, C.ok0, updL C.H up, G', D.w⟩
  have hDH : ∀ id, idsIn rd id = true → D.H id = updL C.H up id := fun id hid => by
    obtain ⟨ob, hob⟩ := idsIn_iff.1 hid
    have := hH _ hob
    simp only at this
    rw [r.H, this]
    exact updL_congr (hval id hid)
  have hCH : ∀ id, idsIn rd id = false → updL C.H up id = C.H id := fun id hid => updL_ids fun p hp e => by
    have := (hu p hp).1
    rw [e, hid] at this; cases this
  have hGt : ∀ id, idsIn rd id = true → G' id = D.G id := fun id h => by simp only [G', h, if_true]
  have hGf : ∀ id, idsIn rd id = false → G' id = C.G id := fun id h => by simp [G', h]
  have hD0 : ∀ b j, D.ok b j → C'.ok b j := by
    intro b j k
    have k1 := k.1
    rw [e1] at k1
    refine ⟨k1.1, fun id v q1 q2 => ?_⟩
    by_cases hid : idsIn rd id = true
    · have q1 : D.G id = some v := by rw [← hGt id hid]; exact q1
      obtain ⟨e, sz, n, k3, k4⟩ := k.2 id v q1 q2
      exact ⟨e, sz, n, by show updL C.H up id = _; rw [← hDH id hid]; exact k3, k4⟩
    · have hid : idsIn rd id = false := by simpa using hid
      have q1 : C.G id = some v := by rw [← hGf id hid]; exact q1
      obtain ⟨e, sz, n, k3, k4⟩ := k1.2 id v hid q1 q2
      exact ⟨e, sz, n, by show updL C.H up id = _; rw [hCH id hid]; exact k3, k4⟩
  have hlDC : Le0 D C' (idsIn rd) := by
    refine ⟨fun b j u k1 k2 => ⟨hD0 b j k1, k2⟩, fun id hid b h => by show G' id = _; rw [hGt id hid]; exact h, fun id hid n v h => ?_, fun id hid n z v h => ?_⟩
    · obtain ⟨e, sz, m, t1, t2, t3⟩ := h
      exact ⟨e, sz, m, by show updL C.H up id = _; rw [← hDH id hid]; exact t1, t2, fun q => by show G' id = _; rw [hGt id hid]; exact t3 q⟩
    · obtain ⟨sh, e, sz, m, rs, t1, t2, t3⟩ := h
      exact ⟨sh, e, sz, m, rs, by show updL C.H up id = _; rw [← hDH id hid]; exact t1, t2, fun q => by show ∃ g, G' id = _ ∧ _; rw [hGt id hid]; exact t3 q⟩
  -- a hidden object's block is as it was
  have hhid : ∀ id v b, idsIn rd id = false → C.G id = some v → blk v = some b → D.w.heap[b]? = C.w.heap[b]? ∧ ∀ id' v', D.G id' = some v' → blk v' ≠ some b := by
    intro id v b hid hv hb
    have hlt := (hI.blk_lt hv hb).2
    refine l.blks b hlt (fun id' v' h3 h4 => ?_)
    obtain ⟨k1, k2⟩ := hG1 id' v' h3
    have := hI.apart id id' v v' b hv k2 hb h4
    rw [← this, hid] at k1
    cases k1
  have hle : Le C C' := by
    refine ⟨fun b j u k1 k2 => ?_, fun id b h => ?_, fun id n v h => ?_, fun id n z v h => ?_, l.size, fun b hb hn => ?_⟩
    · obtain ⟨m1, m2⟩ := l.ok b j u (hok1 b j k1) k2
      exact ⟨hD0 b j m1, m2⟩
    · by_cases hid : idsIn rd id = true
      · show G' id = _
        rw [hGt id hid]
        exact l.ptr id hid b (by show G1 id = _; rw [hG1' id hid]; exact h)
      · show G' id = _
        rw [hGf id (by simpa using hid)]
        exact h
    · by_cases hid : idsIn rd id = true
      · exact hlDC.tag id hid n v (l.tag id hid n v (hl01.tag id hid n v h))
      · have hid : idsIn rd id = false := by simpa using hid
        obtain ⟨e, sz, m, t1, t2, t3⟩ := h
        exact ⟨e, sz, m, by show updL C.H up id = _; rw [hCH id hid]; exact t1, t2, fun q => by show G' id = _; rw [hGf id hid]; exact t3 q⟩
    · by_cases hid : idsIn rd id = true
      · exact hlDC.arr id hid n z v (l.arr id hid n z v (hl01.arr id hid n z v h))
      · have hid : idsIn rd id = false := by simpa using hid
        obtain ⟨sh, e, sz, m, rs, t1, t2, t3⟩ := h
        exact ⟨sh, e, sz, m, rs, by show updL C.H up id = _; rw [hCH id hid]; exact t1, t2, fun q => by show ∃ g, G' id = _ ∧ _; rw [hGf id hid]; exact t3 q⟩
    · have := l.blks b hb (fun id v h3 h4 => hn id v (hG1 id v h3).2 h4)
      refine ⟨this.1, fun id v h3 h4 => ?_⟩
      by_cases hid : idsIn rd id = true
      · have h3 : D.G id = some v := by rw [← hGt id hid]; exact h3
        exact this.2 id v h3 h4
      · have h3 : C.G id = some v := by rw [← hGf id (by simpa using hid)]; exact h3
        exact hn id v h3 h4
  have hI' : Inv C' := by
    refine ⟨by have := r.inv.below; rw [e0] at this; exact this, fun id v h => ?_, fun id id' v v' b q1 q2 q3 q4 => ?_, fun b j h => hI.fresh b j (Nat.le_trans l.size h), fun id v b q1 q2 j => ?_⟩
    · by_cases hid : idsIn rd id = true
      · have h : D.G id = some v := by rw [← hGt id hid]; exact h
        obtain ⟨o, k3, k4⟩ := r.inv.obj id v h
        rw [hDH id hid] at k3
        refine ⟨o, k3, ?_⟩
        have hino : inO (idsIn rd) o = true := by
          have key : ∀ (l : List (Nat × AObj)) (H : Nat → Option AObj), (∀ p ∈ l, inO (idsIn rd) p.2 = true) → (∀ o, H id = some o → inO (idsIn rd) o = true) → ∀ o, updL H l id = some o → inO (idsIn rd) o = true := by
            intro l
            induction l with
            | nil => intro H _ h o ho; exact h o ho
            | cons p r ih =>
              intro H hl h o ho
              refine ih _ (fun q hq => hl q (by simp [hq])) (fun o' ho' => ?_) o ho
              by_cases e : id = p.1
              · subst e; rw [upd_same] at ho'; injection ho' with ho'; rw [← ho']; exact hl p (by simp)
              · rw [upd_ne _ _ e] at ho'; exact h o' ho'
          refine key up C.H (fun p hp => (hu p hp).2) (fun o ho => ?_) _ k3
          obtain ⟨ob, hob⟩ := idsIn_iff.1 hid
          have h7 := (hC _ hob).1
          simp only at h7
          rw [h7] at ho
          injection ho with ho
          rw [← ho]
          exact hrd _ hob
        cases o with
        | box t cells =>
          obtain ⟨b, cs, m1, m2, m3, m4, m5⟩ := k4
          exact ⟨b, cs, m1, by show C.w0.heap.size ≤ b; rw [e0] at m2; exact m2, m3, RdL.mono hlDC _ _ hino m4, m5⟩
        | row e sz n =>
          obtain ⟨hz, xs, k4⟩ := k4
          rw [e0] at k4
          exact ⟨hz, xs, k4⟩
        | arr e sz ver rows =>
          obtain ⟨hz, hr, xs, k4, k5, k6⟩ := k4
          rw [e0] at k4
          exact ⟨hz, hr, xs, k4, RdL.mono hlDC _ _ (inR_flat hino) k5, k6⟩
      · have hid : idsIn rd id = false := by simpa using hid
        have h : C.G id = some v := by rw [← hGf id hid]; exact h
        obtain ⟨o, k3, k4⟩ := hI.obj id v h
        exact ⟨o, by show updL C.H up id = _; rw [hCH id hid]; exact k3, Held.kept hle rfl k4 fun b q => (hhid id _ b hid h q).1⟩
    · by_cases hid : idsIn rd id = true <;> by_cases hid' : idsIn rd id' = true
      · have q1 : D.G id = some v := by rw [← hGt id hid]; exact q1
        have q2 : D.G id' = some v' := by rw [← hGt id' hid']; exact q2
        exact r.inv.apart id id' v v' b q1 q2 q3 q4
      · have q1 : D.G id = some v := by rw [← hGt id hid]; exact q1
        have hid' : idsIn rd id' = false := by simpa using hid'
        have q2 : C.G id' = some v' := by rw [← hGf id' hid']; exact q2
        exact absurd q3 ((hhid id' v' b hid' q2 q4).2 id v q1)
      · have hid : idsIn rd id = false := by simpa using hid
        have q1 : C.G id = some v := by rw [← hGf id hid]; exact q1
        have q2 : D.G id' = some v' := by rw [← hGt id' hid']; exact q2
        exact absurd q4 ((hhid id v b hid q1 q3).2 id' v' q2)
      · have hid : idsIn rd id = false := by simpa using hid
        have hid' : idsIn rd id' = false := by simpa using hid'
        have q1 : C.G id = some v := by rw [← hGf id hid]; exact q1
        have q2 : C.G id' = some v' := by rw [← hGf id' hid']; exact q2
        exact hI.apart id id' v v' b q1 q2 q3 q4
    · by_cases hid : idsIn rd id = true
      · have q1 : D.G id = some v := by rw [← hGt id hid]; exact q1
        have := r.inv.okG id v b q1 q2 j
        rw [e1] at this
        exact this.1
      · have hid : idsIn rd id = false := by simpa using hid
        have q1 : C.G id = some v := by rw [← hGf id hid]; exact q1
        exact hI.okG id v b q1 q2 j
  have hG : ∀ id u, C.G id = some u → ∃ u', C'.G id = some u' := fun id u h => by
    by_cases hid : idsIn rd id = true
    · have hx : ∃ o, D.H id = some o := by
        obtain ⟨ob, hob⟩ := idsIn_iff.1 hid
        have h7 := (hC _ hob).1
        simp only at h7
        have key : ∀ (l : List (Nat × AObj)) (H : Nat → Option AObj), (∃ o, H id = some o) → ∃ o, updL H l id = some o := by
          intro l
          induction l with
          | nil => intro H h; exact h
          | cons p r ih =>
            intro H ⟨o, ho⟩
            refine ih _ ?_
            by_cases e : id = p.1
            · subst e; exact ⟨p.2, upd_same _ _ _⟩
            · exact ⟨o, by rw [upd_ne _ _ e]; exact ho⟩
        obtain ⟨o, ho⟩ := key up C.H ⟨ob, h7⟩
        exact ⟨o, by rw [hDH id hid]; exact ho⟩
      obtain ⟨o, ho⟩ := hx
      obtain ⟨v, hv⟩ := r.real id o (by rw [← r.H]; exact ho)
      exact ⟨v, by show G' id = _; rw [hGt id hid]; exact hv⟩
    · exact ⟨u, by show G' id = _; rw [hGf id (by simpa using hid)]; exact h⟩
  have z8 := Rd.mono hlDC _ _ hr (himp _ _ h2)
  rcases he with rfl | rfl
  · exact ⟨r.defers, u, h1, u, C', rfl, rfl, hI', hle, rfl, rfl, rfl, hG, z8⟩
  · exact ⟨r.defers, u, h1, u, C', rfl, rfl, hI', hle, rfl, rfl, rfl, hG, z8⟩

end Go.Proofs.YtbcjcekoonebiaaGreat.Tl

set_option linter.unusedVariables false
set_option linter.unusedSimpArgs false
namespace Go.Proofs.YtbcjcekoonebiaaGreat.Tl
open Go Go.RowKit
theorem OpS.congr {P : Program} {o : Oper} {ρ ρ' : Operand → Option AV} {rd up : List (Nat × AObj)} {v : AV} (h : OpS P o ρ rd up v) (he : ∀ x ∈ o.op.operands, ρ x = ρ' x) : OpS P o ρ' rd up v :=
  fun C a next Q hI hρ hrd hup hk => h C a next Q hI (fun x hx y hy => hρ x hx y (by rw [← he x hx]; exact hy)) hrd hup hk

theorem ev_step {s : St} {d : Option Tmp} {v : AV} {up : List (Nat × AObj)} {x : Operand} (h : ∀ t, d = some t → x ≠ .tmp t) : (s.step d v up).ev x = s.ev x := by
  cases x with
  | tmp t =>
    simp only [St.ev, St.step, putE]
    cases d with
    | none => rfl
    | some e => exact upd_ne _ _ (fun q => h e rfl (by rw [q]))
  | _ => rfl

def disj (a b : List (Nat × AObj)) : Prop := ∀ p ∈ a, ∀ q ∈ b, p.1 ≠ q.1

theorem updL_comm {H : Nat → Option AObj} : ∀ {a b : List (Nat × AObj)}, disj a b → updL (updL H a) b = updL (updL H b) a := by
  intro a b hd
  funext id
  by_cases ha : ∃ p ∈ a, p.1 = id
  · obtain ⟨p, hp, rfl⟩ := ha
    rw [updL_ids (fun q hq e => hd p hp q hq e.symm)]
    exact updL_congr (by rw [updL_ids (fun q hq e => hd p hp q hq e.symm)])
  · have ha' : ∀ p ∈ a, p.1 ≠ id := fun p hp e => ha ⟨p, hp, e⟩
    rw [updL_ids ha']
    exact updL_congr (updL_ids ha')

theorem step_comm {s : St} {d e : Option Tmp} {u v : AV} {a b : List (Nat × AObj)} (h : ∀ t, d = some t → e ≠ some t) (hd : disj a b) : (s.step d u a).step e v b = (s.step e v b).step d u a := by
  unfold St.step
  simp only [St.mk.injEq, true_and]
  refine ⟨?_, updL_comm hd⟩
  cases d with
  | none => rfl
  | some d =>
    cases e with
    | none => rfl
    | some e =>
      have hne : d ≠ e := fun q => h d rfl (by rw [q])
      funext i
      simp only [putE, upd]
      by_cases h1 : i = d <;> by_cases h2 : i = e <;> simp_all

def Real (s : St) : Prop := ∃ C a, Rel C s a

theorem Real.ptr {s : St} (h : Real s) {x : Operand} {id : Nat} (hx : Leads (s.ev x) id) : ∃ o, s.H id = some o := by
  obtain ⟨C, a, hr⟩ := h
  rcases hx with ⟨off, hx⟩ | ⟨ver, k, hx⟩
  rotate_left
  · have := hr.ev hx
    simp only [Rd] at this
    obtain ⟨_, e, sz, cur, rows, h1, _⟩ := this
    exact ⟨_, by rw [← hr.H]; exact h1⟩
  have := hr.ev hx
  simp only [Rd] at this
  obtain ⟨b, h1, _⟩ := this
  obtain ⟨o, h2, _⟩ := hr.inv.obj id _ h1
  exact ⟨o, by rw [← hr.H]; exact h2⟩

section
variable {P : Program} {ops : Array Oper} {M : Nat → Mk} {Q : St → Prop}
def qA (P : Program) (ops : Array Oper) (M : Nat → Mk) (i : Nat) (K : St → Prop) (s : St) : Prop :=
  match ops[i]? with
  | none => K s
  | some o => (∀ d, o.dst = some d → d < s.n) ∧ ∃ b, gdec ops s.env o = some b ∧
      (b = true → ∃ rd up v, OpA P M i o s rd up v ∧ K (s.step o.dst v up)) ∧ (b = false → K (s.step o.dst (.tup []) []))

def anyA (P : Program) (ops : Array Oper) (M : Nat → Mk) (Q : St → Prop) : Nat → Array Bool → St → Prop
  | 0, listed, s => Region.ready .any ops listed = [] ∧ Q s
  | fuel + 1, listed, s => (Region.ready .any ops listed = [] → Q s) ∧ ∀ i ∈ Region.ready .any ops listed, qA P ops M i (anyA P ops M Q fuel (listed.setIfInBounds i true)) s

theorem wpAny_of_anyA {S : Nat → Bool} {Q : Exit → St → Prop} : ∀ (fuel : Nat) (listed : Array Bool) (s : St) (C : Cx) (a : Act), anyA P ops M (Q .normal) fuel listed s → Rel C s a → wpAny P .any ops (Lift S C Q) fuel listed a C.w
  | 0, _, s, C, a, h, hr => ⟨h.1, s, C, h.2, hr, rfl, rfl, rfl, LeS.refl S C⟩
  | fuel + 1, listed, s, C, a, h, hr => by
    refine ⟨fun h0 => ⟨s, C, h.1 h0, hr, rfl, rfl, rfl, LeS.refl S C⟩, fun i hi => ?_⟩
    have hq := h.2 i hi
    unfold qA at hq
    unfold wpOp
    split
    · rename_i ho
      simp only [ho] at hq
      exact wpAny_of_anyA (S := S) fuel _ s C a hq hr
    · rename_i o ho
      simp only [ho] at hq
      obtain ⟨hd, b, hg, h1, h0⟩ := hq
      rw [hr.wanted hg]
      cases b with
      | true =>
        simp only [if_true]
        obtain ⟨rd, up, v, hop, hk⟩ := h1 rfl
        left
        refine hop.op C a _ _ hr.inv (fun x _ y hy => hr.ev hy) (fun p hp => ?_) (fun p hp => ?_) (fun C' u hI hle hw0 hok hH hG hup hv => ?_)
        · have := hop.hrd p hp
          exact ⟨by rw [hr.H]; exact this, hr.real _ _ this⟩
        · rw [hr.H]; exact hop.hup p hp
        · have hr' := hr.step hd hI hle hH hG hup hv
          exact wpAny_mono' (fun e a w h => h.later hw0 hok (hle.leS S)) _ _ _ _ (wpAny_of_anyA (S := S) fuel _ _ C' _ hk hr')
      | false =>
        simp only [Bool.false_eq_true, if_false]
        have hr' : Rel C (s.step o.dst (.tup []) []) (a.put o.dst undef) := hr.step hd hr.inv (Le.refl C) rfl (fun id u h => ⟨u, h⟩) (by simp) (by simp only [Rd]; exact ⟨#[], rfl, by simp [RdL]⟩)
        exact wpAny_of_anyA (S := S) fuel _ _ C _ (h0 rfl) hr'
where
  wpAny_mono' {P : Program} {ops : Array Oper} {Q Q' : Exit → Act → World → Prop} (hq : ∀ e a w, Q e a w → Q' e a w) : ∀ (fuel : Nat) (listed : Array Bool) (a : Act) (w : World), wpAny P .any ops Q fuel listed a w → wpAny P .any ops Q' fuel listed a w
    | 0, _, _, _, h => ⟨h.1, hq _ _ _ h.2⟩
    | fuel + 1, listed, a, w, h => by
      refine ⟨fun h0 => hq _ _ _ (h.1 h0), fun i hi => ?_⟩
      have h1 := h.2 i hi
      unfold wpOp at *
      split
      · rename_i ho; simp only [ho] at h1; exact wpAny_mono' hq fuel _ _ _ h1
      · rename_i o ho
        simp only [ho] at h1
        split
        · rename_i hw
          rw [if_pos hw] at h1
          rcases h1 with h1 | ⟨k1, a', w', k2⟩
          · exact .inl (wpList_of_AL.owp_mono (fun a w h => wpAny_mono' hq fuel _ a w h) hq h1)
          · exact .inr ⟨k1, a', w', hq _ _ _ k2⟩
        · rename_i hw
          rw [if_neg hw] at h1
          exact wpAny_mono' hq fuel _ _ _ h1

inductive YA (P : Program) (ops : Array Oper) (M : Nat → Mk) (i : Nat) (o : Oper) (s : St) : List (Nat × AObj) → List (Nat × AObj) → AV → Prop
  | run {rd up v} : (∀ d, o.dst = some d → d < s.n) → gdec ops s.env o = some true → OpA P M i o s rd up v → YA P ops M i o s rd up v
  | skip : (∀ d, o.dst = some d → d < s.n) → gdec ops s.env o = some false → YA P ops M i o s [] [] (.tup [])

theorem YA.q {i : Nat} {o : Oper} {s : St} {rd up : List (Nat × AObj)} {v : AV} (hi : ops[i]? = some o) (h : YA P ops M i o s rd up v) {K : St → Prop} (hk : K (s.step o.dst v up)) : qA P ops M i K s := by
  unfold qA
  simp only [hi]
  cases h with
  | run h1 h2 h3 => exact ⟨h1, true, h2, fun _ => ⟨rd, up, v, h3, hk⟩, (fun h => by cases h)⟩
  | skip h1 h2 => exact ⟨h1, false, h2, (fun h => by cases h), fun _ => hk⟩
theorem YA.of_q {i : Nat} {o : Oper} {s : St} (hi : ops[i]? = some o) {K : St → Prop} (h : qA P ops M i K s) : ∃ rd up v, YA P ops M i o s rd up v ∧ K (s.step o.dst v up) := by
  unfold qA at h
  simp only [hi] at h
  obtain ⟨h1, b, h2, h3, h4⟩ := h
  cases b with
  | true => obtain ⟨rd, up, v, k1, k2⟩ := h3 rfl; exact ⟨rd, up, v, .run h1 h2 k1, k2⟩
  | false => exact ⟨[], [], .tup [], .skip h1 h2, h4 rfl⟩

theorem Real.step {i : Nat} {o : Oper} {s : St} {rd up : List (Nat × AObj)} {v : AV} (hr : Real s) (h : YA P ops M i o s rd up v) : Real (s.step o.dst v up) := by
  obtain ⟨C, a, hr⟩ := hr
  cases h with
  | skip h1 h2 => exact ⟨C, _, hr.step h1 hr.inv (Le.refl C) rfl (fun id u h => ⟨u, h⟩) (by simp) (by simp only [Rd]; exact ⟨#[], rfl, by simp [RdL]⟩ : Rd C (.tup []) undef)⟩
  | run h1 h2 hop =>
    have hw := hop.op C a (fun a' w' => ∃ C', Rel C' (s.step o.dst v up) a') (fun _ _ _ => False) hr.inv (fun x _ y hy => hr.ev hy) (fun p hp => by
      have := hop.hrd p hp
      exact ⟨by rw [hr.H]; exact this, hr.real _ _ this⟩) (fun p hp => by rw [hr.H]; exact hop.hup p hp) (fun C' u hI hle hw0 hok hH hG hup hv => ⟨C', hr.step h1 hI hle hH hG hup hv⟩)
    unfold Oper.wp at hw
    generalize (execOp a.eval o).run P C.w = r at hw
    have fin : ∀ a', (∃ C', Rel C' (s.step o.dst v up) a') → Real (s.step o.dst v up) := fun a' ⟨C', h⟩ => ⟨C', a', h⟩
    cases r with
    | ok n w' =>
      cases n <;> simp only [Oper.upon] at hw <;> try (exact fin _ hw)
      case enter f args =>
        obtain ⟨e, w'', fr, k1, _⟩ := hw []
        cases e with
        | returned v => exact fin _ k1
        | panicked c => exact k1.elim
        | outgrown => obtain ⟨_, _, k⟩ := k1; exact k.elim
      case row rw_ args =>
        obtain ⟨v, w'', k1, _⟩ := hw default []
        exact fin _ k1
      all_goals exact hw.elim
    | halt x w' => cases x <;> simp only [Oper.upon] at hw

def indep (ops : Array Oper) (M : Nat → Mk) (i : Nat) (oi : Oper) (j : Nat) (oj : Oper) : Bool :=
  oi.apart ops oj && ((!((M i).b && ((M j).b || isLoad oj.op || isNew oj.op)) && !((M j).b && (isLoad oi.op || isNew oi.op))) || (match (M i).c, (M j).c with | some a, some b => a.ids.all (fun x => !b.ids.contains x) || (match a.lk with | some q => b.kp.contains q | none => false) || (match b.lk with | some q => a.kp.contains q | none => false) | _, _ => false))

def indepO (ops : Array Oper) (M : Nat → Mk) (i : Nat) (oi : Oper) (j : Nat) (oj : Oper) : Bool :=
  oi.apart ops oj && ((!((M i).b && ((M j).b || isLoad oj.op || isNew oj.op)) && !((M j).b && (isLoad oi.op || isNew oi.op))) || (match (M i).c, (M j).c with | some a, some b => a.ids.all (fun x => !b.ids.contains x) | _, _ => false))

theorem gdec_step {o : Oper} {s : St} {d : Option Tmp} {v : AV} {up : List (Nat × AObj)} (h : ∀ t, d = some t → t ∉ o.looksAt ops) : gdec ops (s.step d v up).env o = gdec ops s.env o := by
  unfold gdec
  split
  · rfl
  · rename_i j want hg
    split
    · rfl
    · rename_i t ht
      have : (s.step d v up).env t = s.env t := by
        simp only [St.step, putE]
        cases d with
        | none => rfl
        | some e =>
          refine upd_ne _ _ (fun q => h e rfl ?_)
          simp only [Oper.looksAt, hg, ht]
          simp [q]
      rw [this]

theorem looks_operand {o : Oper} {t : Tmp} (h : Operand.tmp t ∈ o.op.operands) : t ∈ o.looksAt ops := by
  simp only [Oper.looksAt, List.mem_append, List.mem_filterMap]
  left
  exact ⟨.tmp t, by simpa using h, rfl⟩

theorem cellsAt_congr {H H' : Nat → Option AObj} {q : Nat × Nat × Nat} (h : H q.1 = H' q.1) : cellsAt H q = cellsAt H' q := by unfold cellsAt; rw [h]
theorem OpA.colT {i : Nat} {o : Oper} {s s' : St} {rd up : List (Nat × AObj)} {v : AV} (h : OpA P M i o s rd up v) (hev : ∀ x ∈ o.op.operands, s'.ev x = s.ev x) (h1 : ∀ p ∈ rd, s'.H p.1 = s.H p.1) (h2 : ∀ p ∈ up, s'.H p.1 = s.H p.1) :
    ∀ l, (M i).c = some l → (∀ p ∈ rd, p.1 ∈ l.ids) ∧ (∀ p ∈ up, p.1 ∈ l.ids) ∧
    (∀ q, l.lk = some q → up = [] ∧ (∃ p ∈ rd, p.1 = q.1) ∧ ∀ H', cellsAt H' q = cellsAt s'.H q → ∃ rd', rd'.map (·.1) = rd.map (·.1) ∧ OpS P o s'.ev rd' [] v ∧ ∀ p ∈ rd', H' p.1 = some p.2) ∧
    (∀ q ∈ l.kp, cellsAt (updL s'.H up) q = cellsAt s'.H q) := fun l hl => by
  obtain ⟨k1, k2, k3, k4⟩ := h.col l hl
  refine ⟨k1, k2, fun q hq => ?_, fun q hq => ?_⟩
  · obtain ⟨m1, ⟨p, m2, m3⟩, m4⟩ := k3 q hq
    refine ⟨m1, ⟨p, m2, m3⟩, fun H' hH' => ?_⟩
    obtain ⟨rd', n1, n2, n3⟩ := m4 H' (hH'.trans (cellsAt_congr (by rw [← m3]; exact h1 p m2)))
    exact ⟨rd', n1, n2.congr fun x hx => (hev x hx).symm, n3⟩
  · by_cases hu : ∃ p ∈ up, p.1 = q.1
    · obtain ⟨p, hp, e⟩ := hu
      have e1 := h2 p hp
      rw [e] at e1
      rw [cellsAt_congr (H := s'.H) (H' := s.H) e1, ← k4 q hq]
      exact cellsAt_congr (updL_congr e1)
    · exact cellsAt_congr (updL_ids fun p hp e => hu ⟨p, hp, e⟩)
theorem OpA.look {i : Nat} {o : Oper} {s s' : St} {rd up : List (Nat × AObj)} {v : AV} (h : OpA P M i o s rd up v) {l : Col} (hl : (M i).c = some l) {q : Nat × Nat × Nat} (hq : l.lk = some q) (hev : ∀ x ∈ o.op.operands, s'.ev x = s.ev x) (hk : cellsAt s'.H q = cellsAt s.H q) :
    up = [] ∧ ∃ rd', OpA P M i o s' rd' [] v := by
  obtain ⟨k1, k2, k3, k4⟩ := h.col l hl
  obtain ⟨rfl, ⟨p, m2, m3⟩, m4⟩ := k3 q hq
  obtain ⟨rd', n1, n2, n3⟩ := m4 s'.H hk
  have ids : ∀ p' ∈ rd', ∃ p ∈ rd, p.1 = p'.1 := fun p' hp' => by
    have : p'.1 ∈ rd'.map (·.1) := List.mem_map.2 ⟨p', hp', rfl⟩
    rw [n1] at this
    obtain ⟨p, hp, e⟩ := List.mem_map.1 this
    exact ⟨p, hp, e⟩
  refine ⟨rfl, rd', n2.congr fun x hx => (hev x hx).symm, n3, by simp, ?_, fun l' hl' => ?_⟩
  · rcases h.m with h3 | ⟨h3, h4⟩
    · exact .inl h3
    · refine .inr ⟨?_, .inl rfl⟩
      rcases h3 with h3 | ⟨h3, h5⟩
      · left; subst h3; simp at n1; exact n1
      · refine .inr ⟨h3, fun p' hp' => ?_⟩
        obtain ⟨p, hp, e⟩ := ids p' hp'
        obtain ⟨x, hx, k⟩ := h5 p hp
        exact ⟨x, hx, by rw [hev x hx, ← e]; exact k⟩
  · rw [hl] at hl'
    injection hl' with hl'
    subst hl'
    refine ⟨fun p' hp' => ?_, by simp, fun q' hq' => ?_, fun q' hq' => rfl⟩
    · obtain ⟨p, hp, e⟩ := ids p' hp'
      rw [← e]; exact k1 p hp
    · rw [hq] at hq'
      injection hq' with hq'
      subst hq'
      refine ⟨rfl, ?_, fun H' hH' => ?_⟩
      · have : q.1 ∈ rd'.map (·.1) := by rw [n1]; exact List.mem_map.2 ⟨p, m2, m3⟩
        obtain ⟨p', hp', e⟩ := List.mem_map.1 this
        exact ⟨p', hp', e⟩
      · obtain ⟨rd2, a1, a2, a3⟩ := m4 H' (hH'.trans hk)
        exact ⟨rd2, a1.trans n1.symm, a2.congr fun x hx => (hev x hx).symm, a3⟩

theorem OpA.step {i : Nat} {o : Oper} {s : St} {rd up up' : List (Nat × AObj)} {v v' : AV} {d : Option Tmp} (h : OpA P M i o s rd up v) (hl : ∀ t, d = some t → t ∉ o.looksAt ops) (h1 : disj up' rd) (h2 : disj up' up) : OpA P M i o (s.step d v' up') rd up v := by
  have hev : ∀ x ∈ o.op.operands, (s.step d v' up').ev x = s.ev x := fun x hx => ev_step (fun t ht e => hl t ht (looks_operand (by rw [← e]; exact hx)))
  have hH : ∀ id, (∀ p ∈ up', p.1 ≠ id) → (s.step d v' up').H id = s.H id := fun id hid => updL_ids hid
  refine ⟨h.op.congr (fun x hx => (hev x hx).symm), fun p hp => ?_, fun p hp => ?_, ?_, h.colT hev (fun p hp => hH _ (fun q hq => h1 q hq p hp)) (fun p hp => hH _ (fun q hq => h2 q hq p hp))⟩
  · rw [hH _ (fun q hq => h1 q hq p hp)]; exact h.hrd p hp
  · rw [hH _ (fun q hq => h2 q hq p hp)]; exact h.hup p hp
  · rcases h.m with h3 | ⟨h3, h4⟩
    · exact .inl h3
    · refine .inr ⟨?_, ?_⟩
      · rcases h3 with h3 | ⟨h3, h5⟩
        · exact .inl h3
        · refine .inr ⟨h3, fun p hp => ?_⟩
          obtain ⟨x, hx, k⟩ := h5 p hp
          exact ⟨x, hx, by rw [hev x hx]; exact k⟩
      · rcases h4 with h4 | ⟨h4, h5⟩
        · exact .inl h4
        · exact .inr ⟨h4, fun p hp => by rw [hH _ (fun q hq => h2 q hq p hp)]; exact h5 p hp⟩

theorem OpA.back {i : Nat} {o : Oper} {s : St} {rd up up' : List (Nat × AObj)} {v v' : AV} {d : Option Tmp} (h : OpA P M i o (s.step d v' up') rd up v) (hl : ∀ t, d = some t → t ∉ o.looksAt ops) (h1 : disj up' rd) (h2 : disj up' up) : OpA P M i o s rd up v := by
  have hev : ∀ x ∈ o.op.operands, (s.step d v' up').ev x = s.ev x := fun x hx => ev_step (fun t ht e => hl t ht (looks_operand (by rw [← e]; exact hx)))
  have hH : ∀ id, (∀ p ∈ up', p.1 ≠ id) → (s.step d v' up').H id = s.H id := fun id hid => updL_ids hid
  refine ⟨h.op.congr hev, fun p hp => ?_, fun p hp => ?_, ?_, h.colT (fun x hx => (hev x hx).symm) (fun p hp => (hH _ (fun q hq => h1 q hq p hp)).symm) (fun p hp => (hH _ (fun q hq => h2 q hq p hp)).symm)⟩
  · rw [← hH _ (fun q hq => h1 q hq p hp)]; exact h.hrd p hp
  · rw [← hH _ (fun q hq => h2 q hq p hp)]; exact h.hup p hp
  · rcases h.m with h3 | ⟨h3, h4⟩
    · exact .inl h3
    · refine .inr ⟨?_, ?_⟩
      · rcases h3 with h3 | ⟨h3, h5⟩
        · exact .inl h3
        · refine .inr ⟨h3, fun p hp => ?_⟩
          obtain ⟨x, hx, k⟩ := h5 p hp
          exact ⟨x, hx, by rw [← hev x hx]; exact k⟩
      · rcases h4 with h4 | ⟨h4, h5⟩
        · exact .inl h4
        · exact .inr ⟨h4, fun p hp => by rw [← hH _ (fun q hq => h2 q hq p hp)]; exact h5 p hp⟩

theorem YA.step {i : Nat} {o : Oper} {s : St} {rd up up' : List (Nat × AObj)} {v v' : AV} {d : Option Tmp} (h : YA P ops M i o s rd up v) (hl : ∀ t, d = some t → t ∉ o.looksAt ops) (h1 : disj up' rd) (h2 : disj up' up) : YA P ops M i o (s.step d v' up') rd up v := by
  cases h with
  | run k1 k2 k3 => exact .run k1 (by rw [gdec_step hl]; exact k2) (k3.step hl h1 h2)
  | skip k1 k2 => exact .skip k1 (by rw [gdec_step hl]; exact k2)
theorem YA.back {i : Nat} {o : Oper} {s : St} {rd up up' : List (Nat × AObj)} {v v' : AV} {d : Option Tmp} (h : YA P ops M i o (s.step d v' up') rd up v) (hl : ∀ t, d = some t → t ∉ o.looksAt ops) (h1 : disj up' rd) (h2 : disj up' up) : YA P ops M i o s rd up v := by
  cases h with
  | run k1 k2 k3 => exact .run k1 (by rw [← gdec_step hl]; exact k2) (k3.back hl h1 h2)
  | skip k1 k2 => exact .skip k1 (by rw [← gdec_step hl]; exact k2)

theorem updL_mem {H : Nat → Option AObj} : ∀ {up : List (Nat × AObj)} {p : Nat × AObj}, p ∈ up → ∃ o, updL H up p.1 = some o
  | [], _, h => by cases h
  | q :: r, p, h => by
    simp only [updL]
    by_cases hr : ∃ x ∈ r, x.1 = p.1
    · obtain ⟨x, hx, e⟩ := hr
      obtain ⟨o, ho⟩ := updL_mem (H := upd H q.1 q.2) hx
      exact ⟨o, by rw [← e]; exact ho⟩
    · rw [updL_ids (fun x hx e => hr ⟨x, hx, e⟩)]
      rcases List.mem_cons.1 h with rfl | h
      · exact ⟨_, upd_same _ _ _⟩
      · exact absurd ⟨p, h, rfl⟩ hr
theorem updL_stays {H : Nat → Option AObj} {id : Nat} {o : AObj} (h : H id = some o) : ∀ {up : List (Nat × AObj)}, ∃ o', updL H up id = some o' := by
  intro up
  by_cases hr : ∃ x ∈ up, x.1 = id
  · obtain ⟨x, hx, rfl⟩ := hr
    exact updL_mem hx
  · exact ⟨o, by rw [updL_ids (fun x hx e => hr ⟨x, hx, e⟩)]; exact h⟩

theorem indep_disj {i j : Nat} {oi oj : Oper} {s : St} {rdi upi rdj upj : List (Nat × AObj)} {vi vj : AV} (hind : indepO ops M i oi j oj = true) (hr : Real s) (hi : YA P ops M i oi s rdi upi vi) (hj : YA P ops M j oj (s.step oi.dst vi upi) rdj upj vj) :
    disj upi rdj ∧ disj upi upj ∧ disj upj rdi := by
  unfold indepO at hind
  rw [Bool.and_eq_true] at hind
  obtain ⟨hap, hind⟩ := hind
  rw [Bool.or_eq_true] at hind
  rcases hind with hind | hcol
  rotate_left
  · split at hcol
    · rename_i a b ha hb
      have hd : ∀ x ∈ a.ids, x ∉ b.ids := fun x hx => by
        have := List.all_eq_true.1 hcol x hx
        simpa using this
      have ci : (∀ p ∈ rdi, p.1 ∈ a.ids) ∧ (∀ p ∈ upi, p.1 ∈ a.ids) := by
        cases hi with
        | run _ _ k => exact ⟨(k.col a ha).1, (k.col a ha).2.1⟩
        | skip => exact ⟨by simp, by simp⟩
      have cj : (∀ p ∈ rdj, p.1 ∈ b.ids) ∧ (∀ p ∈ upj, p.1 ∈ b.ids) := by
        cases hj with
        | run _ _ k => exact ⟨(k.col b hb).1, (k.col b hb).2.1⟩
        | skip => exact ⟨by simp, by simp⟩
      exact ⟨fun p hp q hq e => hd p.1 (ci.2 p hp) (by rw [e]; exact cj.1 q hq), fun p hp q hq e => hd p.1 (ci.2 p hp) (by rw [e]; exact cj.2 q hq), fun p hp q hq e => hd q.1 (ci.1 q hq) (by rw [← e]; exact cj.2 p hp)⟩
    · cases hcol
  simp only [Bool.and_eq_true, Bool.not_eq_true', Bool.and_eq_false_iff, Bool.or_eq_false_iff] at hind
  obtain ⟨h1, h2⟩ := hind
  obtain ⟨a1, a2, a3⟩ := Oper.apart_spec hap
  cases hi with
  | skip => exact ⟨by simp [disj], by simp [disj], fun p _ q hq => by cases hq⟩
  | run _ _ ki =>
    cases hj with
    | skip => exact ⟨(fun p _ q hq => by cases hq), (fun p _ q hq => by cases hq), by simp [disj]⟩
    | run _ _ kj =>
      rcases ki.m with mi | ⟨mi1, mi2⟩
      · rcases h1 with h1 | ⟨⟨h1, h3⟩, h4⟩
        · rw [mi] at h1; cases h1
        · rcases kj.m with mj | ⟨mj1, mj2⟩
          · rw [mj] at h1; cases h1
          · have e1 : rdj = [] := by rcases mj1 with e | ⟨e, _⟩; · exact e
                                     · rw [h3] at e; cases e
            have e2 : upj = [] := by rcases mj2 with e | ⟨e, _⟩; · exact e
                                     · rw [h4] at e; cases e
            subst e1 e2
            exact ⟨(fun p _ q hq => by cases hq), (fun p _ q hq => by cases hq), by simp [disj]⟩
      · rcases kj.m with mj | ⟨mj1, mj2⟩
        · rcases h2 with h2 | ⟨h2, h3⟩
          · rw [mj] at h2; cases h2
          · have e1 : rdi = [] := by rcases mi1 with e | ⟨e, _⟩; · exact e
                                     · rw [h2] at e; cases e
            have e2 : upi = [] := by rcases mi2 with e | ⟨e, _⟩; · exact e
                                     · rw [h3] at e; cases e
            subst e1 e2
            exact ⟨by simp [disj], by simp [disj], fun p _ q hq => by cases hq⟩
        · have newi : ∀ p ∈ upi, s.H p.1 = none := fun p hp => by rcases mi2 with e | ⟨_, e⟩; · subst e; cases hp
                                                                  · exact e p hp
          have newj : ∀ p ∈ upj, (s.step oi.dst vi upi).H p.1 = none := fun p hp => by rcases mj2 with e | ⟨_, e⟩; · subst e; cases hp
                                                                                       · exact e p hp
          refine ⟨fun p hp q hq e => ?_, fun p hp q hq e => ?_, fun p hp q hq e => ?_⟩
          · rcases mj1 with e' | ⟨_, e'⟩
            · subst e'; cases hq
            · obtain ⟨x, hx, k⟩ := e' q hq
              rw [ev_step (fun t ht e2 => a1 t ht (looks_operand (by rw [← e2]; exact hx)))] at k
              obtain ⟨o, ho⟩ := hr.ptr k
              rw [← e, newi p hp] at ho
              cases ho
          · obtain ⟨o, ho⟩ := updL_mem (H := s.H) hp
            have := newj q hq
            rw [← e] at this
            simp only [St.step] at this
            rw [this] at ho
            cases ho
          · have h5 := ki.hrd q hq
            obtain ⟨o, ho⟩ := updL_stays h5 (up := upi)
            have := newj p hp
            rw [e] at this
            simp only [St.step] at this
            rw [this] at ho
            cases ho

theorem YA.look {i : Nat} {o : Oper} {s s' : St} {rd up : List (Nat × AObj)} {v : AV} (h : YA P ops M i o s rd up v) {l : Col} (hl : (M i).c = some l) {q : Nat × Nat × Nat} (hq : l.lk = some q) (hn : s'.n = s.n) (hg : gdec ops s'.env o = gdec ops s.env o) (hev : ∀ x ∈ o.op.operands, s'.ev x = s.ev x) (hk : cellsAt s'.H q = cellsAt s.H q) :
    up = [] ∧ ∃ rd', YA P ops M i o s' rd' [] v := by
  cases h with
  | run k1 k2 k3 =>
    obtain ⟨e, rd', k4⟩ := k3.look hl hq hev hk
    exact ⟨e, rd', .run (by rw [hn]; exact k1) (by rw [hg]; exact k2) k4⟩
  | skip k1 k2 => exact ⟨rfl, [], .skip (by rw [hn]; exact k1) (by rw [hg]; exact k2)⟩
theorem YA.keep {i : Nat} {o : Oper} {s : St} {rd up : List (Nat × AObj)} {v : AV} (h : YA P ops M i o s rd up v) {l : Col} (hl : (M i).c = some l) {q : Nat × Nat × Nat} (hq : q ∈ l.kp) : cellsAt (updL s.H up) q = cellsAt s.H q := by
  cases h with
  | run k1 k2 k3 => exact (k3.col l hl).2.2.2 q hq
  | skip k1 k2 => rfl

theorem YA.swap {i j : Nat} {oi oj : Oper} {s : St} {rdi upi rdj upj : List (Nat × AObj)} {vi vj : AV} (hind : indep ops M i oi j oj = true) (hr : Real s) (hi : YA P ops M i oi s rdi upi vi) (hj : YA P ops M j oj (s.step oi.dst vi upi) rdj upj vj) :
    disj upj upi ∧ (∃ rdj', YA P ops M j oj s rdj' upj vj) ∧ ∃ rdi', YA P ops M i oi (s.step oj.dst vj upj) rdi' upi vi := by
  have hap : oi.apart ops oj = true := by
    unfold indep at hind
    rw [Bool.and_eq_true] at hind
    exact hind.1
  obtain ⟨a1, a2, a3⟩ := Oper.apart_spec hap
  have evj : ∀ x ∈ oj.op.operands, s.ev x = (s.step oi.dst vi upi).ev x := fun x hx => (ev_step (fun t ht e => a1 t ht (looks_operand (by rw [← e]; exact hx)))).symm
  have evi : ∀ x ∈ oi.op.operands, (s.step oj.dst vj upj).ev x = s.ev x := fun x hx => ev_step (fun t ht e => a3 t ht (looks_operand (by rw [← e]; exact hx)))
  by_cases hO : indepO ops M i oi j oj = true
  · obtain ⟨d1, d2, d3⟩ := indep_disj hO hr hi hj
    have d2' : disj upj upi := fun p hp q hq e => d2 q hq p hp e.symm
    exact ⟨d2', ⟨_, hj.back (fun t ht => a1 t ht) d1 d2⟩, ⟨_, hi.step (fun t ht => a3 t ht) d3 d2'⟩⟩
  · unfold indep at hind
    rw [Bool.and_eq_true, Bool.or_eq_true] at hind
    obtain ⟨_, hind⟩ := hind
    rcases hind with hind | hind
    · exact absurd (by unfold indepO; rw [Bool.and_eq_true, Bool.or_eq_true]; exact ⟨hap, .inl hind⟩) hO
    · split at hind
      · rename_i a b ha hb
        rw [Bool.or_eq_true, Bool.or_eq_true] at hind
        rcases hind with (hind | hind) | hind
        · exact absurd (by unfold indepO; rw [Bool.and_eq_true, Bool.or_eq_true]; exact ⟨hap, .inr (by simp only [ha, hb]; exact hind)⟩) hO
        · split at hind
          · rename_i q hq
            have hq2 : q ∈ b.kp := by simpa using hind
            have e0 : upi = [] := (hi.look (s' := s) ha hq rfl rfl (fun _ _ => rfl) rfl).1
            subst e0
            have hj' : YA P ops M j oj s rdj upj vj := hj.back (fun t ht => a1 t ht) (by simp [disj]) (by simp [disj])
            exact ⟨by simp [disj], ⟨_, hj'⟩, (hi.look (s' := s.step oj.dst vj upj) ha hq rfl (gdec_step fun t ht => a3 t ht) evi (hj'.keep hb hq2)).2⟩
          · cases hind
        · split at hind
          · rename_i q hq
            have hq2 : q ∈ a.kp := by simpa using hind
            obtain ⟨e0, rd', k⟩ := hj.look (s' := s) hb hq rfl (gdec_step fun t ht => a1 t ht).symm evj (hi.keep ha hq2).symm
            subst e0
            exact ⟨by simp [disj], ⟨_, k⟩, ⟨_, hi.step (fun t ht => a3 t ht) (by simp [disj]) (by simp [disj])⟩⟩
          · cases hind
      · cases hind

/-! ### who waits for whom -/
def msk (ops : Array Oper) : Nat → List Nat
  | 0 => []
  | k + 1 => let acc := msk ops k
    acc ++ [match ops[k]? with
      | some o => o.after.toList.foldl (fun m e => if Region.binds .any e then m ||| 2 ^ e.on ||| acc.getD e.on 0 else m) 0
      | none => 0]
def waits (ops : Array Oper) (j i : Nat) : Bool := ((msk ops ops.size).getD j 0).testBit i

theorem msk_length (ops : Array Oper) : ∀ k, (msk ops k).length = k
  | 0 => rfl
  | k + 1 => by simp [msk, msk_length ops k]
theorem msk_get (ops : Array Oper) : ∀ (k m j : Nat), j < k → k ≤ m → (msk ops m).getD j 0 = (msk ops k).getD j 0
  | k, 0, j, h, hm => by omega
  | k, m + 1, j, h, hm => by
    by_cases e : k = m + 1
    · rw [e]
    · have := msk_get ops k m j h (by omega)
      rw [← this]
      simp only [msk, List.getD_eq_getElem?_getD]
      rw [List.getElem?_append_left (by rw [msk_length]; omega)]
theorem fold_bit {acc : List Nat} {i : Nat} : ∀ (l : List Edge) (m : Nat), (l.foldl (fun m e => if Region.binds .any e then m ||| 2 ^ e.on ||| acc.getD e.on 0 else m) m).testBit i = true → m.testBit i = true ∨ ∃ e ∈ l, Region.binds .any e = true ∧ (e.on = i ∨ (acc.getD e.on 0).testBit i = true)
  | [], m, h => .inl h
  | e :: l, m, h => by
    simp only [List.foldl_cons] at h
    rcases fold_bit l _ h with h | ⟨e', h1, h2⟩
    · split at h
      · rename_i hb
        simp only [Nat.testBit_or, Bool.or_eq_true] at h
        rcases h with (h | h) | h
        · exact .inl h
        · right
          refine ⟨e, by simp, hb, .inl ?_⟩
          rw [Nat.testBit_two_pow] at h
          simpa using h
        · exact .inr ⟨e, by simp, hb, .inr h⟩
      · exact .inl h
    · exact .inr ⟨e', by simp [h1], h2⟩

theorem waits_spec {j i : Nat} (h : waits ops j i = true) : ∃ o, ops[j]? = some o ∧ ∃ e ∈ o.after, Region.binds .any e = true ∧ (e.on = i ∨ waits ops e.on i = true) := by
  unfold waits at h
  have hj : j < ops.size := by
    rcases Nat.lt_or_ge j ops.size with h' | h'
    · exact h'
    · rw [List.getD_eq_getElem?_getD, List.getElem?_eq_none (by rw [msk_length]; exact h')] at h
      simp at h
  rw [msk_get ops (j + 1) ops.size j (by omega) hj] at h
  have hg : (msk ops (j + 1)).getD j 0 = (match ops[j]? with
      | some o => o.after.toList.foldl (fun m e => if Region.binds .any e then m ||| 2 ^ e.on ||| (msk ops j).getD e.on 0 else m) 0
      | none => 0) := by
    simp only [msk, List.getD_eq_getElem?_getD]
    rw [List.getElem?_append_right (by rw [msk_length]; exact Nat.le_refl _), msk_length, Nat.sub_self]
    rfl
  rw [hg] at h
  have ho : ops[j]? = some ops[j] := Array.getElem?_eq_getElem hj
  rw [ho] at h
  simp only at h
  refine ⟨_, ho, ?_⟩
  rcases fold_bit _ _ h with h | ⟨e, h1, h2, h3⟩
  · simp at h
  · refine ⟨e, by simpa using h1, h2, h3.imp id (fun h4 => ?_)⟩
    unfold waits
    rcases Nat.lt_or_ge e.on j with h' | h'
    · rw [msk_get ops j ops.size e.on h' (by omega)]; exact h4
    · rw [List.getD_eq_getElem?_getD, List.getElem?_eq_none (by rw [msk_length]; exact h')] at h4
      simp at h4

def closed (ops : Array Oper) (listed : Array Bool) : Prop := ∀ j i, listed.getD j false = true → waits ops j i = true → listed.getD i false = true

theorem ready_waits {listed : Array Bool} (hc : closed ops listed) {j : Nat} (hj : j ∈ Region.ready .any ops listed) {i : Nat} (hw : waits ops j i = true) : listed.getD i false = true := by
  obtain ⟨_, oj, hoj, hall⟩ := mem_ready.1 hj
  obtain ⟨o, ho, e, he, hb, h⟩ := waits_spec hw
  rw [hoj] at ho
  injection ho with ho
  subst ho
  have := hall e he hb
  rcases h with h | h
  · rw [← h]; exact this
  · exact hc _ _ this h

theorem closed_set {listed : Array Bool} (hc : closed ops listed) {j : Nat} (hj : j ∈ Region.ready .any ops listed) : closed ops (listed.setIfInBounds j true) := by
  intro k i hk hw
  have hmono : listed.getD i false = true → (listed.setIfInBounds j true).getD i false = true := fun h => by
    by_cases e : j = i
    · subst e
      have hlt : j < listed.size := by
        rcases Nat.lt_or_ge j listed.size with h' | h'
        · exact h'
        · simp [Array.getElem?_eq_none h'] at h
      simp [hlt]
    · rw [getD_set_ne false e]; exact h
  by_cases e : j = k
  · subst e; exact hmono (ready_waits hc hj hw)
  · rw [getD_set_ne false e] at hk; exact hmono (hc k i hk hw)

theorem anyA_first {i : Nat} {oi : Oper} {up : List (Nat × AObj)} {v : AV} (hi : ops[i]? = some oi) :
    ∀ (fuel : Nat) (listed : Array Bool) (s : St) (rd : List (Nat × AObj)), closed ops listed → Real s →
      (∀ j oj, ops[j]? = some oj → j ≠ i → listed.getD j true = false → waits ops j i = false → indep ops M i oi j oj = true) →
      i ∈ Region.ready .any ops listed → YA P ops M i oi s rd up v →
      anyA P ops M Q fuel (listed.setIfInBounds i true) (s.step oi.dst v up) → anyA P ops M Q (fuel + 1) listed s := by
  intro fuel
  induction fuel with
  | zero =>
    intro listed s rd hc hreal _ hr hy H
    refine ⟨fun h => (by rw [h] at hr; cases hr), fun j hj => ?_⟩
    by_cases hji : j = i
    · subst hji; exact hy.q hi H
    · have := ready_mono hj hji
      rw [H.1] at this
      cases this
  | succ fuel ih =>
    intro listed s rd hc hreal hfree hr hy H
    refine ⟨fun h => (by rw [h] at hr; cases hr), fun j hj => ?_⟩
    by_cases hji : j = i
    · subst hji; exact hy.q hi H
    · have h1 := H.2 j (ready_mono hj hji)
      obtain ⟨hjun, oj, hoj, hall⟩ := mem_ready.1 hj
      have hun : listed.getD i false = false := by
        have h0 := (mem_ready.1 hr).1
        rcases Nat.lt_or_ge i listed.size with h' | h'
        · simp [h'] at h0 ⊢; exact h0
        · simp [Array.getElem?_eq_none h'] at h0
      have hnw : waits ops j i = false := by
        cases hw : waits ops j i with
        | false => rfl
        | true => have := ready_waits hc hj hw; rw [hun] at this; cases this
      have hind := hfree j oj hoj hji hjun hnw
      obtain ⟨rdj, upj, vj, hyj, hK⟩ := YA.of_q hoj h1
      have hap : oi.apart ops oj = true := by
        unfold indep at hind
        rw [Bool.and_eq_true] at hind
        exact hind.1
      obtain ⟨_, a2, _⟩ := Oper.apart_spec hap
      obtain ⟨d2', ⟨rdj', hyj'⟩, ⟨rdi', hyi'⟩⟩ := YA.swap hind hreal hy hyj
      refine hyj'.q hoj ?_
      refine ih (listed.setIfInBounds j true) _ _ (closed_set hc hj) (hreal.step hyj') (fun k ok hk hki hunk hw => ?_) (ready_mono hr (Ne.symm hji)) hyi' ?_
      · refine hfree k ok hk hki ?_ hw
        by_cases hjk : j = k
        · subst hjk; exact hjun
        · rw [getD_set_ne true hjk] at hunk; exact hunk
      · rw [Array.setIfInBounds_comm _ _ hji, ← step_comm (fun t ht => a2 t ht) (fun p hp q hq e => d2' q hq p hp e.symm)]
        exact hK

def pref (n k : Nat) : Array Bool := ((List.replicate k true) ++ (List.replicate (n - k) false)).toArray

def drawK (ops : Array Oper) (M : Nat → Mk) (k : Nat) : Bool :=
  decide (k ∈ Region.ready .any ops (pref ops.size k)) && (List.range ops.size).all (fun j => decide (j ≤ k) || waits ops j k || (match ops[k]?, ops[j]? with | some a, some b => indep ops M k a j b | _, _ => true))
def drawB (ops : Array Oper) (M : Nat → Mk) : Bool := (List.range ops.size).all (drawK ops M) && decide (Region.ready .any ops (pref ops.size ops.size) = []) && (List.range ops.size).all (fun j => (List.range ops.size).all fun i => !waits ops j i || decide (i < j))

theorem pref_get (n k j : Nat) (hk : k ≤ n) (d : Bool) : (pref n k).getD j d = if j < k then true else if j < n then false else d := by
  simp only [pref, Array.getD_eq_getD_getElem?, List.getElem?_toArray]
  by_cases h : j < k
  · rw [List.getElem?_append_left (by simpa using h), if_pos h]; simp [h]
  · rw [List.getElem?_append_right (by simp; omega), if_neg h]
    by_cases h2 : j < n
    · rw [if_pos h2]; simp [List.getElem?_replicate]; rw [if_pos (by omega)]; rfl
    · rw [if_neg h2]; simp [List.getElem?_replicate]; rw [if_neg (by omega)]; rfl
theorem pref_set (n k : Nat) (hk : k < n) : (pref n k).setIfInBounds k true = pref n (k + 1) := by
  apply Array.ext'
  simp only [pref, Array.toList_setIfInBounds]
  apply List.ext_getElem?
  intro j
  rw [List.getElem?_set]
  by_cases h : k = j
  · subst h
    rw [if_pos rfl, List.getElem?_append_left (by simp)]
    simp; omega
  · rw [if_neg h]
    by_cases h1 : j < k
    · rw [List.getElem?_append_left (by simpa using h1), List.getElem?_append_left (by simp; omega)]
      simp [List.getElem?_replicate, h1]; omega
    · rw [List.getElem?_append_right (by simp; omega), List.getElem?_append_right (by simp; omega)]
      simp [List.getElem?_replicate]
      congr 1
      apply propext
      omega

theorem anyA_lex (hB : drawB ops M = true) : ∀ (l : List Oper) (k : Nat) (s : St), k + l.length = ops.size → (∀ j, l[j]? = ops[k + j]?) → Real s → AL P ops M l k s Q → anyA P ops M Q l.length (pref ops.size k) s
  | [], k, s, hn, _, _, h => by
    simp only [drawB, Bool.and_eq_true, decide_eq_true_eq] at hB
    simp only [List.length_nil, Nat.add_zero] at hn
    subst hn
    exact ⟨hB.1.2, h⟩
  | o :: l, k, s, hn, hl, hr, h => by
    have hB0 := hB
    simp only [drawB, Bool.and_eq_true, List.all_eq_true, List.mem_range, decide_eq_true_eq] at hB
    obtain ⟨⟨hB1, _⟩, hB3⟩ := hB
    have h0 : ops[k]? = some o := by simpa using (hl 0).symm
    have hk : k < ops.size := by simp at hn; omega
    have hq : qA P ops M k (AL P ops M l (k + 1) · Q) s := by
      unfold qA; simp only [h0]; exact h
    obtain ⟨rd, up, v, hy, hK⟩ := YA.of_q h0 hq
    have hd := hB1 k hk
    simp only [drawK, Bool.and_eq_true, decide_eq_true_eq, List.all_eq_true, List.mem_range, Bool.or_eq_true] at hd
    refine anyA_first h0 l.length (pref ops.size k) s _ (fun j i hj hw => ?_) hr (fun j oj hoj hjk hun hw => ?_) hd.1 hy ?_
    · rw [pref_get _ _ _ (by omega)] at hj ⊢
      by_cases h1 : j < k
      · have := hB3 j (by omega)
        have hi : i < ops.size := by
          rcases Nat.lt_or_ge i ops.size with h' | h'
          · exact h'
          · obtain ⟨o', ho', e, he, hb, h⟩ := waits_spec hw
            exact absurd hw (by
              have : waits ops j i = false := by
                cases hq : waits ops j i with
                | false => rfl
                | true => exact (waits_lt hB0 hq h').elim
              rw [this]; simp)
        have := this i hi
        rw [hw] at this
        simp at this
        rw [if_pos (by omega)]
      · rw [if_neg h1] at hj
        split at hj <;> cases hj
    · rw [pref_get _ _ _ (by omega)] at hun
      have hj1 : ¬ j < k := fun h => by rw [if_pos h] at hun; cases hun
      have hj2 : j < ops.size := (Array.getElem?_eq_some_iff.1 hoj).1
      rcases hd.2 j hj2 with (h1 | h1) | h1
      · omega
      · rw [hw] at h1; cases h1
      · simp only [h0, hoj] at h1; exact h1
    · rw [pref_set _ _ hk]
      exact anyA_lex hB0 l (k + 1) _ (by simp at hn; omega) (fun j => by have := hl (j + 1); simpa [Nat.add_assoc, Nat.add_comm 1 j] using this) (hr.step hy) hK
where
  waits_lt {ops : Array Oper} {M : Nat → Mk} {j i : Nat} (hB : drawB ops M = true) (hw : waits ops j i = true) (hi : ops.size ≤ i) : False := by
    have hready : ∀ k, k < ops.size → k ∈ Region.ready .any ops (pref ops.size k) := fun k hk => by
      simp only [drawB, Bool.and_eq_true, List.all_eq_true, List.mem_range, decide_eq_true_eq] at hB
      have := hB.1.1 k hk
      simp only [drawK, Bool.and_eq_true, decide_eq_true_eq] at this
      exact this.1
    have key : ∀ j i, waits ops j i = true → i < j := by
      intro j
      induction j using Nat.strongRecOn with
      | _ j ih =>
        intro i hw
        obtain ⟨o, ho, e, he, hb, h⟩ := waits_spec hw
        have hj : j < ops.size := (Array.getElem?_eq_some_iff.1 ho).1
        obtain ⟨_, o', ho', hall⟩ := mem_ready.1 (hready j hj)
        rw [ho] at ho'
        injection ho' with ho'
        subst ho'
        have hlt : e.on < j := by
          have := hall e he hb
          rw [pref_get _ _ _ (by omega)] at this
          by_cases h1 : e.on < j
          · exact h1
          · rw [if_neg h1] at this; split at this <;> cases this
        rcases h with h | h
        · omega
        · have := ih e.on hlt i h; omega
    have h1 := key j i hw
    obtain ⟨o, ho, _⟩ := waits_spec hw
    have := (Array.getElem?_eq_some_iff.1 ho).1
    omega

theorem AW.drawc {S : Nat → Bool} {Q : Exit → St → Prop} {s : St} {id : Nat} {l : List Oper} (hm : P.follows .mixedOrders = true) (hB : drawB l.toArray M = true) (h : AL P l.toArray M l 0 s (Q .normal)) : AW P S (.region id l.toArray true) Q s := fun C a hr => by
  have hb : Below C.w.heap.size C.w { C.w with drawn := C.w.drawn + 1 } := (Below.refl _ _).drew
  obtain ⟨hI, hle⟩ := hr.inv.moved hb
  have hr' : Rel { C with w := { C.w with drawn := C.w.drawn + 1 } } s a := ⟨hI, hr.H, hr.real, fun d v hd => (hr.env d v hd).le hle, hr.size, hr.defers⟩
  have hany := anyA_lex (P := P) (Q := Q .normal) hB l 0 s (by simp) (by simp) ⟨C, a, hr⟩ h
  have h0 : pref l.toArray.size 0 = Array.replicate l.toArray.size false := by
    apply Array.ext'
    simp [pref]
  rw [h0] at hany
  refine wp_region_any hm ?_
  have := wpAny_of_anyA (S := S) (Q := Q) l.length _ s _ a hany hr'
  exact wpAny_of_anyA.wpAny_mono' (fun e a w (h : Lift S { C with w := { C.w with drawn := C.w.drawn + 1 } } Q e a w) => Lift.later (C := C) h rfl rfl (hle.leS S)) _ _ _ _ (by simpa using this)
end
theorem AW.draw {P : Program} {M : Nat → Bool} {S : Nat → Bool} {Q : Exit → St → Prop} {s : St} {id : Nat} {l : List Oper} (hm : P.follows .mixedOrders = true) (hB : drawB l.toArray (fun i => ⟨M i, none⟩) = true) (h : AL P l.toArray (fun i => ⟨M i, none⟩) l 0 s (Q .normal)) : AW P S (.region id l.toArray true) Q s := AW.drawc hm hB h

end Go.Proofs.YtbcjcekoonebiaaGreat.Tl

set_option linter.unusedVariables false
set_option linter.unusedSimpArgs false
set_option linter.unusedSectionVars false
namespace Go.Proofs.YtbcjcekoonebiaaGreat.Tl
open Go Go.RowKit
def lk {β : Type} : List (Nat × β) → Nat → Option β
  | [], _ => none
  | (a, b) :: r, k => bif Nat.beq k a then some b else lk r k
def pt {β : Type} (E : List (Nat × β)) : Option Nat → β → List (Nat × β)
  | some d, v => (d, v) :: E
  | none, _ => E
abbrev mkS (n : Nat) (E : List (Nat × AV)) (H : List (Nat × AObj)) : St := ⟨n, lk E, lk H⟩
def evE (E : List (Nat × AV)) : Operand → Option AV
  | .tmp t => lk E t
  | .const v => ofVal v
  | .func f => some (.func f [] [])
  | .global _ => none

theorem lk_cons {β : Type} (d : Nat) (v : β) (E : List (Nat × β)) : lk ((d, v) :: E) = upd (lk E) d v := by
  funext k
  simp only [lk, upd]
  by_cases h : k = d
  · subst h; simp
  · have : Nat.beq k d = false := by
      cases hq : Nat.beq k d with
      | false => rfl
      | true => exact absurd (Nat.eq_of_beq_eq_true hq) h
    simp [this, h]
theorem lk_pt (E : List (Nat × AV)) (d : Option Nat) (v : AV) : putE (lk E) d v = lk (pt E d v) := by
  cases d with
  | none => rfl
  | some d => exact (lk_cons d v E).symm
theorem ev_lk (n : Nat) (E : List (Nat × AV)) (H : List (Nat × AObj)) : (mkS n E H).ev = evE E := by
  funext x; cases x <;> rfl
theorem argE_lk (args : List AV) : argE args = lk ((List.range args.length).zip args) := by
  funext i
  have key : ∀ (l : List AV) (k i : Nat), lk ((List.range' k l.length).zip l) (k + i) = l[i]? := by
    intro l
    induction l with
    | nil => intro k i; rfl
    | cons x l ih =>
      intro k i
      simp only [List.length_cons, List.range'_succ, List.zip_cons_cons, lk]
      cases i with
      | zero => simp
      | succ i =>
        have h : Nat.beq (k + (i + 1)) k = false := by
          cases hq : Nat.beq (k + (i + 1)) k with
          | false => rfl
          | true => have := Nat.eq_of_beq_eq_true hq; omega
        rw [h, cond_false, show k + (i + 1) = k + 1 + i by omega, ih (k + 1) i]
        simp
  have := key args 0 i
  rw [Nat.zero_add] at this
  rw [List.range_eq_range', this]
  rfl
theorem updL_lk (H : List (Nat × AObj)) (id : Nat) (o : AObj) : updL (lk H) [(id, o)] = lk ((id, o) :: H) := by
  simp only [updL, lk_cons]

structure TI.Good (T : TI) (P : Program) : Prop extends T.Ok P where
  zr : ∀ {t r}, gt T.zr t = some r → Tl.zr P t = some r
  plc : ∀ {t r}, gt T.plc t = some r → plcs P t = some r
  byt : ∀ {t r}, gt T.byt t = some r → Tl.byt P t = some r
  fns : ∀ {f}, gt T.fns f = some true → callable P f = true
  wide : P.follows .mixedOrders = true

theorem aval_rd {T : TI} {H : Nat → Option AObj} {ρ : Operand → Option AV} {op : Op} {v : AV} {rd : List (Nat × AObj)} (h : aval T H ρ op = some (v, rd)) :
    (rd = [] ∨ (isLoad op = true ∧ ∀ p ∈ rd, ∃ x ∈ op.operands, Leads (ρ x) p.1)) ∧ ∀ p ∈ rd, H p.1 = some p.2 := by
  by_cases hld : ∃ ty x, op = .load ty x
  · obtain ⟨ty, x, rfl⟩ := hld
    simp only [aval] at h
    split at h
    · rename_i g n id off h1 h2
      split at h
      · rename_i t cells h3
        simp only [Option.map_eq_some_iff, Prod.mk.injEq] at h
        obtain ⟨y, hy, rfl, rfl⟩ := h
        refine ⟨.inr ⟨rfl, fun p hp => ?_⟩, fun p hp => ?_⟩
        · simp only [List.mem_singleton] at hp; subst hp; exact ⟨x, by simp [Op.operands], .inl ⟨off, h2⟩⟩
        · simp only [List.mem_singleton] at hp; subst hp; exact h3
      · cases h
    · simp only [Option.map_eq_some_iff, Prod.mk.injEq] at h
      obtain ⟨y, hy, rfl, rfl⟩ := h
      exact ⟨.inl rfl, by simp⟩
    · cases h
  · have : rd = [] := by
      cases op <;> simp only [aval] at h <;> first
        | (cases h; done)
        | (exact absurd ⟨_, _, rfl⟩ hld)
        | (repeat' (split at h)
           all_goals first
             | (cases h; done)
             | (simp only [Option.map_eq_some_iff, Prod.mk.injEq] at h; obtain ⟨_, _, _, h⟩ := h; exact h.symm)
             | (injection h with h; injection h with _ h; exact h.symm))
    subst this
    exact ⟨.inl rfl, by simp⟩

section
variable {P : Program} {T : TI} (hT : T.Good P) {ops : Array Oper} {M : Nat → Mk} {o : Oper} {rest : List Oper} {i n : Nat} [nc : NC M i] {E : List (Nat × AV)} {H : List (Nat × AObj)} {Q : St → Prop}
include hT
omit hT in
theorem dOk1 {d : Nat} (hd : o.dst = some d) (hn : Nat.blt d n = true) : ∀ t, o.dst = some t → t < n := fun t h => by
  rw [hd] at h; injection h with h; subst h; exact Nat.le_of_ble_eq_true hn

theorem AL.v {d : Nat} (hd : o.dst = some d) (hn : Nat.blt d n = true) (hg : gdec ops (lk E) o = some true) {v : AV} {rd : List (Nat × AObj)} (hv : aval T (lk H) (evE E) o.op = some (v, rd))
    (k : AL P ops M rest (i + 1) (mkS n ((d, v) :: E) H) Q) : AL P ops M (o :: rest) i (mkS n E H) Q := by
  obtain ⟨h1, h2⟩ := aval_rd hv
  refine AL.op (dOk1 hd hn) hg (rd := rd) (up := []) (v := v) ⟨by rw [ev_lk]; exact aval_sound hT.toOk hv, h2, by simp, .inr ⟨by rw [ev_lk]; exact h1, .inl rfl⟩, NC.no⟩ ?_
  unfold St.step
  rw [hd, lk_pt]
  exact k

theorem AL.bld {d : Nat} (hd : o.dst = some d) (hn : Nat.blt d n = true) (hg : gdec ops (lk E) o = some true) {ty : TypeId} {parts : Array (Nat × Operand)} (ho : o.op = .build ty parts) {z l : List AV} {pl : List (Nat × Nat)} (hz : gt T.zr ty = some z) (hp : gt T.plc ty = some pl)
    (hf : fillA pl (evE E) z parts.toList = some l) (k : AL P ops M rest (i + 1) (mkS n ((d, (.agg l)) :: E) H) Q) : AL P ops M (o :: rest) i (mkS n E H) Q := by
  refine AL.op (dOk1 hd hn) hg (rd := []) (up := []) (v := .agg l) ⟨by rw [ev_lk]; exact OpS.build ho (hT.zr hz) (hT.plc hp) hf, by simp, by simp, .inr ⟨.inl rfl, .inl rfl⟩, NC.no⟩ ?_
  unfold St.step
  rw [hd, lk_pt]
  exact k

theorem AL.newObj {d : Nat} (hd : o.dst = some d) (hn : Nat.blt d n = true) (hg : gdec ops (lk E) o = some true) (id : Nat) (hid : lk H id = none) {ob : AObj} {v : AV} (hnw : isNew o.op = true) (h : OpS P o (evE E) [] [(id, ob)] v)
    (k : AL P ops M rest (i + 1) (mkS n ((d, v) :: E) ((id, ob) :: H)) Q) : AL P ops M (o :: rest) i (mkS n E H) Q := by
  refine AL.op (dOk1 hd hn) hg (rd := []) (up := [(id, ob)]) (v := v) ⟨by rw [ev_lk]; exact h, by simp, fun p hp => ?_, .inr ⟨.inl rfl, .inr ⟨hnw, fun p hp => ?_⟩⟩, NC.no⟩ ?_
  · simp only [List.mem_singleton] at hp; subst hp; exact .inr hid
  · simp only [List.mem_singleton] at hp; subst hp; exact hid
  · unfold St.step
    rw [hd, lk_pt, updL_lk]
    exact k

theorem AL.alc {d : Nat} (hd : o.dst = some d) (hn : Nat.blt d n = true) (hg : gdec ops (lk E) o = some true) {ty : TypeId} (ho : o.op = .alloc ty) {z : List AV} (hz : gt T.zr ty = some z) (id : Nat) (hid : lk H id = none)
    (k : AL P ops M rest (i + 1) (mkS n ((d, (.ptr id 0)) :: E) ((id, .box ty z) :: H)) Q) : AL P ops M (o :: rest) i (mkS n E H) Q :=
  AL.newObj hT hd hn hg id hid (by rw [ho]; rfl) (OpS.alloc ho (hT.zr hz) id) k
theorem AL.bx {d : Nat} (hd : o.dst = some d) (hn : Nat.blt d n = true) (hg : gdec ops (lk E) o = some true) {ty : TypeId} {x : Operand} (ho : o.op = .box ty x) {y : AV} (hy : evE E x = some y) {l : List AV} (hl : cellsA y = some l) (id : Nat) (hid : lk H id = none)
    (k : AL P ops M rest (i + 1) (mkS n ((d, (.ptr id 0)) :: E) ((id, .box ty l) :: H)) Q) : AL P ops M (o :: rest) i (mkS n E H) Q :=
  AL.newObj hT hd hn hg id hid (by rw [ho]; rfl) (OpS.box ho hy hl id) k
theorem AL.lit {d : Nat} (hd : o.dst = some d) (hn : Nat.blt d n = true) (hg : gdec ops (lk E) o = some true) {ty : TypeId} {len : Nat} {parts : Array (Nat × Operand)} (ho : o.op = .buildSlice ty len parts) {e sz : Nat} (he : gt T.elm ty = some (e, sz + 1))
    {z : List AV} (hz : gt T.zr e = some z) {rows : List (List AV)} (hs : seqA (evE E) (sz + 1) 0 parts.toList = some rows) (hl : Nat.beq rows.length len = true) (hb : Nat.ble (len * (sz + 1)) 16777216 = true) (id : Nat) (hid : lk H id = none)
    (k : AL P ops M rest (i + 1) (mkS n ((d, (.sl (.own id) (sz + 1) rows)) :: E) ((id, .row e (sz + 1) rows.length) :: H)) Q) : AL P ops M (o :: rest) i (mkS n E H) Q :=
  AL.newObj hT hd hn hg id hid (by rw [ho]; rfl) (OpS.lit ho (hT.elm he) (Nat.succ_pos _) (hT.zr hz) hs (Nat.eq_of_beq_eq_true hl) (Nat.le_of_ble_eq_true hb) id) k

theorem AL.st (hd : o.dst = none) (hg : gdec ops (lk E) o = some true) {ty : TypeId} {x y : Operand} (ho : o.op = .store ty x y) {id off : Nat} (hx : evE E x = some (.ptr id off)) {v : AV} (hy : evE E y = some v) {l : List AV} (hl : cellsA v = some l)
    {g : Bool} {m : Nat} (hlay : gt T.lay ty = some (g, m)) (hlm : Nat.beq l.length m = true) {t : TypeId} {cells : List AV} (hH : lk H id = some (.box t cells)) (hb : Nat.ble (off + l.length) cells.length = true) (hm : (M i).b = true)
    (k : AL P ops M rest (i + 1) (mkS n (E) ((id, .box t (spl cells off l)) :: H)) Q) : AL P ops M (o :: rest) i (mkS n E H) Q := by
  have e := Nat.eq_of_beq_eq_true hlm
  refine AL.op (fun d h => by rw [hd] at h; cases h) hg (rd := [(id, .box t cells)]) (up := [(id, .box t (spl cells off l))]) (v := .undef) ⟨by rw [ev_lk]; exact OpS.store ho hx hy hl (by rw [e]; exact hT.lay hlay) (Nat.le_of_ble_eq_true hb), fun p hp => ?_, fun p hp => ?_, .inl hm, NC.no⟩ ?_
  · simp only [List.mem_singleton] at hp; subst hp; exact hH
  · simp only [List.mem_singleton] at hp; subst hp; exact .inl ⟨_, List.mem_singleton.2 rfl⟩
  · unfold St.step
    rw [hd, updL_lk]
    exact k

theorem AL.app {d : Nat} (hd : o.dst = some d) (hn : Nat.blt d n = true) (hg : gdec ops (lk E) o = some true) {ty : TypeId} {s x : Operand} (ho : o.op = .call { callee := .builtin .append, args := #[s, x], argTypes := #[ty, ty] }) {e sz : Nat} (he : gt T.elm ty = some (e, sz + 1)) {z : List AV} (hz : gt T.zr e = some z) (hzl : Nat.beq z.length (sz + 1) = true) {by_ : Nat} (hby : gt T.byt e = some by_)
    {id : Nat} {tagx : Tag} {rows news : List (List AV)} (hs : evE E s = some (.sl (.own id) (sz + 1) rows)) (hx : evE E x = some (.sl tagx (sz + 1) news)) (hH : lk H id = some (.row e (sz + 1) rows.length)) (hm : (M i).b = true) (hne : news ≠ []) (hb : (rows.length + news.length) * by_ ≤ 140737488355328) (hb2 : rows.length + news.length ≤ 9223372036854775807)
    (k : AL P ops M rest (i + 1) (mkS n ((d, (.sl (.own id) (sz + 1) (rows ++ news))) :: E) ((id, .row e (sz + 1) (rows.length + news.length)) :: H)) Q) : AL P ops M (o :: rest) i (mkS n E H) Q := by
  refine AL.op (dOk1 hd hn) hg (rd := [(id, .row e (sz + 1) rows.length)]) (up := [(id, .row e (sz + 1) (rows.length + news.length))]) (v := .sl (.own id) (sz + 1) (rows ++ news)) ⟨by rw [ev_lk]; exact OpS.append ho (hT.elm he) (Nat.succ_pos _) (hT.zr hz) (Nat.eq_of_beq_eq_true hzl) (hT.byt hby) hs hx hne hb hb2, fun p hp => ?_, fun p hp => ?_, .inl hm, NC.no⟩ ?_
  · simp only [List.mem_singleton] at hp; subst hp; exact hH
  · simp only [List.mem_singleton] at hp; subst hp; exact .inl ⟨_, List.mem_singleton.2 rfl⟩
  · unfold St.step
    rw [hd, lk_pt, updL_lk]
    exact k
theorem AL.app0 {d : Nat} (hd : o.dst = some d) (hn : Nat.blt d n = true) (hg : gdec ops (lk E) o = some true) {ty : TypeId} {s x : Operand} (ho : o.op = .call { callee := .builtin .append, args := #[s, x], argTypes := #[ty, ty] }) {e sz : Nat} (he : gt T.elm ty = some (e, sz))
    {tag tagx : Tag} {szs szx : Nat} {rows : List (List AV)} (hs : evE E s = some (.sl tag szs rows)) (hx : evE E x = some (.sl tagx szx [])) (k : AL P ops M rest (i + 1) (mkS n ((d, (.sl tag szs rows)) :: E) H) Q) : AL P ops M (o :: rest) i (mkS n E H) Q := by
  refine AL.op (dOk1 hd hn) hg (rd := []) (up := []) (v := .sl tag szs rows) ⟨by rw [ev_lk]; exact OpS.append0 ho (hT.elm he) hs hx, by simp, by simp, .inr ⟨.inl rfl, .inl rfl⟩, NC.no⟩ ?_
  unfold St.step
  rw [hd, lk_pt]
  exact k

theorem AL.cl {d : Nat} (hd : o.dst = some d) (hn : Nat.blt d n = true) (hg : gdec ops (lk E) o = some true) {cf : Operand} {args : Array Operand} {tys : Array TypeId} (ho : o.op = .call { callee := .value cf, args := args, argTypes := tys }) {f : FuncId} {first caps : List AV}
    (hf : evE E cf = some (.func f first caps)) (hc : gt T.fns f = some true) {ags : List AV} (ha : listA (evE E) args.toList = some ags) {xs : List AV} (hx : puL (first ++ ags ++ caps) = xs) (hp : pureL xs = true) {res : AV} (h : ACall P f xs res)
    (k : AL P ops M rest (i + 1) (mkS n ((d, res) :: E) H) Q) : AL P ops M (o :: rest) i (mkS n E H) Q := by
  refine AL.op (dOk1 hd hn) hg (rd := []) (up := []) (v := res) ⟨by rw [ev_lk]; exact OpS.call ho hf (hT.fns hc) ha hx hp h, by simp, by simp, .inr ⟨.inl rfl, .inl rfl⟩, NC.no⟩ ?_
  unfold St.step
  rw [hd, lk_pt]
  exact k

theorem AL.sk {d : Nat} (hd : o.dst = some d) (hn : Nat.blt d n = true) (hg : gdec ops (lk E) o = some false) (k : AL P ops M rest (i + 1) (mkS n ((d, .tup []) :: E) H) Q) : AL P ops M (o :: rest) i (mkS n E H) Q := by
  refine AL.skip (dOk1 hd hn) hg ?_
  unfold St.step
  rw [hd, lk_pt]
  exact k
end
theorem AW.trim {P : Program} {S : Nat → Bool} {Q : Exit → St → Prop} {c : Code} {n : Nat} {E : List (Nat × AV)} {H : List (Nat × AObj)} (E' : List (Nat × AV)) (H' : List (Nat × AObj)) (hS : ∀ id, S id = true → idsIn H' id = true)
    (hE : ∀ p ∈ E', lk E p.1 = some p.2 ∧ inA (idsIn H') p.2 = true) (hH : ∀ p ∈ H', lk H p.1 = some p.2 ∧ inO (idsIn H') p.2 = true) (h : AW P S c Q (mkS n E' H')) : AW P S c Q (mkS n E H) := by
  have mem : ∀ {β : Type} {l : List (Nat × β)} {k : Nat} {b : β}, lk l k = some b → (k, b) ∈ l := by
    intro β l
    induction l with
    | nil => intro k b h; cases h
    | cons p r ih =>
      obtain ⟨a, c⟩ := p
      intro k b h
      simp only [lk] at h
      cases hq : Nat.beq k a with
      | true => rw [hq] at h; simp only [cond_true] at h; injection h with h; subst h; have := Nat.eq_of_beq_eq_true hq; subst this; simp
      | false => rw [hq] at h; simp only [cond_false] at h; simp [ih h]
  have some' : ∀ {l : List (Nat × AObj)} {k : Nat} {b : AObj}, (k, b) ∈ l → ∃ b', lk l k = some b' := by
    intro l
    induction l with
    | nil => intro k b h; cases h
    | cons p r ih =>
      obtain ⟨a, c⟩ := p
      intro k b h
      simp only [lk]
      cases hq : Nat.beq k a with
      | true => exact ⟨c, rfl⟩
      | false =>
        rcases List.mem_cons.1 h with h | h
        · injection h with h1 h2; subst h1; simp at hq
        · simpa using ih h
  refine AW.forget (mkS n E' H') (idsIn H') hS rfl (fun d v h => hE (d, v) (mem h)) (fun id => ?_) (fun id o h => (hH (id, o) (mem h)).2) h
  show lk H' id = if idsIn H' id = true then lk H id else none
  cases hq : idsIn H' id with
  | true =>
    obtain ⟨o, ho⟩ := idsIn_iff.1 hq
    obtain ⟨o', ho'⟩ := some' ho
    rw [if_pos rfl, ho', (hH _ (mem ho')).1]
  | false =>
    rw [if_neg (by simp)]
    cases hl : lk H' id with
    | none => rfl
    | some o => have := idsIn_iff.2 ⟨o, mem hl⟩; rw [hq] at this; cases this

end Go.Proofs.YtbcjcekoonebiaaGreat.Tl

set_option linter.unusedVariables false
set_option linter.unusedSimpArgs false
set_option linter.unusedSectionVars false
namespace Go.Proofs.YtbcjcekoonebiaaGreat.Tl
open Go Go.RowKit
def resV (T : TI) (E : List (Nat × AV)) (H : List (Nat × AObj)) : ResultVar → Option AV
  | .tmp t => lk E t
  | .cell p ty => match gt T.lay ty, lk E p with
    | some (g, n), some (.ptr id off) => match lk H id with
      | some (.box _ cells) => valA g n (cells.drop off)
      | _ => none
    | _, _ => none
def resL (T : TI) (E : List (Nat × AV)) (H : List (Nat × AObj)) : List ResultVar → Option (List AV)
  | [] => some []
  | r :: rs => match resV T E H r, resL T E H rs with
    | some x, some l => some (x :: l)
    | _, _ => none
theorem resV_ok {P : Program} {T : TI} (hT : T.Good P) {n : Nat} {E : List (Nat × AV)} {H : List (Nat × AObj)} {r : ResultVar} {x : AV} (h : resV T E H r = some x) : Res1 P r (mkS n E H) x := by
  cases r with
  | tmp t => exact Res1.tmp h
  | cell p ty =>
    simp only [resV] at h
    split at h
    · rename_i g m id off h1 h2
      split at h
      · rename_i t cells h3
        exact Res1.cell h2 h3 (hT.lay h1) h
      · cases h
    · cases h
theorem resL_ok {P : Program} {T : TI} (hT : T.Good P) {n : Nat} {E : List (Nat × AV)} {H : List (Nat × AObj)} : ∀ {rs : List ResultVar} {xs : List AV}, resL T E H rs = some xs →
    xs.length = rs.length ∧ ∀ (i : Nat) (rv : ResultVar) (x : AV), rs[i]? = some rv → xs[i]? = some x → Res1 P rv (mkS n E H) x
  | [], xs, h => by simp only [resL] at h; injection h with h; subst h; simp
  | r :: rs, xs, h => by
    simp only [resL] at h
    split at h
    · rename_i x l h1 h2
      injection h with h
      subst h
      obtain ⟨k1, k2⟩ := resL_ok hT (n := n) h2
      refine ⟨by simp [k1], fun i rv y h3 h4 => ?_⟩
      cases i with
      | zero => simp at h3 h4; subst h3 h4; exact resV_ok hT h1
      | succ i => exact k2 i rv y (by simpa using h3) (by simpa using h4)
    · cases h

theorem ResA.of {P : Program} {T : TI} (hT : T.Good P) {fn : Func} {rs : List ResultVar} {n : Nat} {E : List (Nat × AV)} {H : List (Nat × AObj)} {xs : List AV} (hr : fn.results.toList = rs) (h : resL T E H rs = some xs) : ResA P fn (mkS n E H) (tupA xs) :=
  let ⟨k1, k2⟩ := resL_ok hT (n := n) h
  ResA.mk hr k1 k2

theorem RetQ.mk {P : Program} {T : TI} (hT : T.Good P) {fn : Func} {e : Exit} {rs : List ResultVar} {n : Nat} {E : List (Nat × AV)} {H : List (Nat × AObj)} {xs : List AV} {res : AV} (he : e = .normal ∨ e = .ret) (hr : fn.results.toList = rs) (h : resL T E H rs = some xs) (hp : Wk (fz (lk H) (tupA xs)) res) :
    RetQ P fn res e (mkS n E H) := ⟨he, _, ResA.of hT hr h, hp⟩

theorem ACall.go {P : Program} {f : FuncId} {fn : Func} {c : Code} {args : List AV} {res : AV} {n : Nat} (E : List (Nat × AV)) (hf : P.funcs[f]? = some fn) (hb : fn.body = some c) (hn : fn.ntmps = n) (hE : (List.range args.length).zip args = E) (hl : Nat.ble args.length n = true) (hp : pureA res = true)
    (h : AW P (fun _ => false) c (RetQ P fn res) (mkS n E [])) : ACall P f args res := by
  subst hn hE
  refine ACall.body hf hb (Nat.le_of_ble_eq_true hl) hp ?_
  rw [argE_lk]
  exact h

theorem AL.cs {P : Program} {ops : Array Oper} {M : Nat → Mk} {l : List Oper} {i n : Nat} {E : List (Nat × AV)} {H : List (Nat × AObj)} {Q : St → Prop} (d : Nat) {c : Bool} (hd : lk E d = some (.bool c))
    (h1 : c = true → AL P ops M l i (mkS n ((d, .bool true) :: E) H) Q) (h0 : c = false → AL P ops M l i (mkS n ((d, .bool false) :: E) H) Q) : AL P ops M l i (mkS n E H) Q := by
  have key : lk ((d, .bool c) :: E) = lk E := by
    rw [lk_cons]
    funext k
    simp only [upd]
    split
    · rename_i h; rw [h, hd]
    · rfl
  unfold mkS at *
  cases c with
  | true => have := h1 rfl; rw [key] at this; exact this
  | false => have := h0 rfl; rw [key] at this; exact this

section
variable {P : Program} {T : TI} (hT : T.Good P) {ops : Array Oper} {M : Nat → Mk} {o : Oper} {rest : List Oper} {i n : Nat} [nc : NC M i] {E : List (Nat × AV)} {H : List (Nat × AObj)} {Q : St → Prop}
include hT
theorem AL.ix {d : Nat} (hd : o.dst = some d) (hn : Nat.blt d n = true) (hg : gdec ops (lk E) o = some true) {ty : TypeId} {x j : Operand} (ho : o.op = .indexAddr ty x j) {e sz : Nat} (he : gt T.elm ty = some (e, sz)) {tag : Tag} {rows : List (List AV)} (hx : evE E x = some (.sl tag sz rows))
    {kd : IntKind} {m : Int} (hj : evE E j = some (.int kd m)) (h0 : 0 ≤ m) {r : List AV} (hr : rows[m.toNat]? = some r)
    (k : AL P ops M rest (i + 1) (mkS n ((d, .ep r) :: E) H) Q) : AL P ops M (o :: rest) i (mkS n E H) Q := by
  refine AL.v hT hd hn hg (v := .ep r) (rd := []) ?_ k
  rw [ho]
  simp only [aval, he, hx, hj]
  rw [if_pos h0, hr]
  simp
end
theorem AW.if {P : Program} {S : Nat → Bool} {Q : Exit → St → Prop} {c : Operand} {x y : Code} {n : Nat} {E : List (Nat × AV)} {H : List (Nat × AObj)} {b : Bool} (hc : evE E c = some (.bool b)) (h1 : b = true → AW P S x Q (mkS n E H)) (h0 : b = false → AW P S y Q (mkS n E H)) : AW P S (.cond c x y) Q (mkS n E H) :=
  AW.cond (by rw [ev_lk]; exact hc) h1 h0

end Go.Proofs.YtbcjcekoonebiaaGreat.Tl

set_option linter.unusedVariables false
set_option linter.unusedSimpArgs false
set_option linter.unusedSectionVars false
namespace Go.Proofs.YtbcjcekoonebiaaGreat.Tl
open Go Go.RowKit
mutual
theorem pu_pure : ∀ x : AV, pureA x = true → pu x = x
  | .undef, _ => rfl
  | .bool _, _ => rfl
  | .int _ _, _ => rfl
  | .str _, _ => rfl
  | .nilp, _ => rfl
  | .ptr _ _, _ => rfl
  | .nilf, _ => rfl
  | .ep cells, h => by simp only [pureA, inA] at h; simp only [pu, puL_pure cells h]
  | .sl tag sz rows, h => by
    simp only [pureA, inA, Bool.and_eq_true] at h
    simp only [pu, puR_pure rows h.2]
    cases tag <;> simp_all
  | .func f a b, h => by simp only [pureA, inA, Bool.and_eq_true] at h; simp only [pu, puL_pure a h.1, puL_pure b h.2]
  | .agg cells, h => by simp only [pureA, inA] at h; simp only [pu, puL_pure cells h]
  | .tup vs, h => by simp only [pureA, inA] at h; simp only [pu, puL_pure vs h]
theorem puL_pure : ∀ l : List AV, pureL l = true → puL l = l
  | [], _ => rfl
  | x :: xs, h => by simp only [pureL, inL, Bool.and_eq_true] at h; simp only [puL, pu_pure x h.1, puL_pure xs h.2]
theorem puR_pure : ∀ l : List (List AV), pureR l = true → puR l = l
  | [], _ => rfl
  | x :: xs, h => by simp only [pureR, inR, Bool.and_eq_true] at h; simp only [puR, puL_pure x h.1, puR_pure xs h.2]
end

mutual
theorem Wk.refl : ∀ x : AV, Wk x x
  | .int _ _ => ⟨rfl, rfl⟩
  | .bool _ => rfl
  | .str _ => rfl
  | .undef => rfl
  | .nilp => rfl
  | .nilf => rfl
  | .ptr _ _ => rfl
  | .mv _ _ _ => rfl
  | .ep _ => rfl
  | .func _ _ _ => rfl
  | .sl _ _ _ => ⟨.inl rfl, rfl, .inl rfl⟩
  | .agg l => WkL.refl l
  | .tup l => WkL.refl l
theorem WkL.refl : ∀ l : List AV, WkL l l
  | [] => trivial
  | x :: xs => ⟨Wk.refl x, WkL.refl xs⟩
end
mutual
theorem fz_pure (H : Nat → Option AObj) : ∀ x : AV, pureA x = true → fz H x = x
  | .undef, _ => rfl
  | .bool _, _ => rfl
  | .int _ _, _ => rfl
  | .str _, _ => rfl
  | .nilp, _ => rfl
  | .nilf, _ => rfl
  | .ptr _ _, h => by simp [pureA, inA] at h
  | .mv _ _ _, h => by simp [pureA, inA] at h
  | .ep cells, h => by simp only [pureA, inA] at h; simp only [fz, fzL_pure H cells h]
  | .sl tag sz rows, h => by
    simp only [pureA, inA, Bool.and_eq_true] at h
    simp only [fz, fzR_pure H rows h.2]
    cases tag <;> simp_all
  | .func f a b, h => by simp only [pureA, inA, Bool.and_eq_true] at h; simp only [fz, fzL_pure H a h.1, fzL_pure H b h.2]
  | .agg cells, h => by simp only [pureA, inA] at h; simp only [fz, fzL_pure H cells h]
  | .tup vs, h => by simp only [pureA, inA] at h; simp only [fz, fzL_pure H vs h]
theorem fzL_pure (H : Nat → Option AObj) : ∀ l : List AV, pureL l = true → fzL H l = l
  | [], _ => rfl
  | x :: xs, h => by simp only [pureL, inL, Bool.and_eq_true] at h; simp only [fzL, fz_pure H x h.1, fzL_pure H xs h.2]
theorem fzR_pure (H : Nat → Option AObj) : ∀ l : List (List AV), pureR l = true → fzR H l = l
  | [], _ => rfl
  | x :: xs, h => by simp only [pureR, inR, Bool.and_eq_true] at h; simp only [fzR, fzL_pure H x h.1, fzR_pure H xs h.2]
end

section
variable {P : Program} {T : TI} (hT : T.Good P) {ops : Array Oper} {M : Nat → Mk} {o : Oper} {rest : List Oper} {i n : Nat} [nc : NC M i] {E : List (Nat × AV)} {H : List (Nat × AObj)} {Q : St → Prop}
include hT
theorem AL.clp {d : Nat} (hd : o.dst = some d) (hn : Nat.blt d n = true) (hg : gdec ops (lk E) o = some true) {cf : Operand} {args : Array Operand} {tys : Array TypeId} (ho : o.op = .call { callee := .value cf, args := args, argTypes := tys }) {f : FuncId} {first caps : List AV}
    (hf : evE E cf = some (.func f first caps)) (hc : gt T.fns f = some true) {ags : List AV} (ha : listA (evE E) args.toList = some ags) {res : AV} (h : ACall P f (first ++ ags ++ caps) res) (hp : pureL (first ++ ags ++ caps) = true)
    (k : AL P ops M rest (i + 1) (mkS n ((d, res) :: E) H) Q) : AL P ops M (o :: rest) i (mkS n E H) Q :=
  AL.cl hT hd hn hg ho hf hc ha (puL_pure _ hp) hp h k
theorem AL.clo {d : Nat} (hd : o.dst = some d) (hn : Nat.blt d n = true) (hg : gdec ops (lk E) o = some true) {cf : Operand} {args : Array Operand} {tys : Array TypeId} (ho : o.op = .call { callee := .value cf, args := args, argTypes := tys }) {f : FuncId} {first caps : List AV}
    (hf : evE E cf = some (.func f first caps)) (hc : gt T.fns f = some true) {ags : List AV} (ha : listA (evE E) args.toList = some ags) {xs : List AV} {res : AV} (h : ACall P f xs res) (hx : puL (first ++ ags ++ caps) = xs) (hp : pureL xs = true)
    (k : AL P ops M rest (i + 1) (mkS n ((d, res) :: E) H) Q) : AL P ops M (o :: rest) i (mkS n E H) Q :=
  AL.cl hT hd hn hg ho hf hc ha hx hp h k
end
def Trims (S : Nat → Bool) (E : List (Nat × AV)) (H : List (Nat × AObj)) (E' : List (Nat × AV)) (H' : List (Nat × AObj)) : Prop :=
  (∀ id, S id = true → idsIn H' id = true) ∧ (∀ p ∈ E', lk E p.1 = some p.2 ∧ inA (idsIn H') p.2 = true) ∧ (∀ p ∈ H', lk H p.1 = some p.2 ∧ inO (idsIn H') p.2 = true)

theorem AW.lp {P : Program} {S : Nat → Bool} {Q : Exit → St → Prop} {c : Code} {n : Nat} {E : List (Nat × AV)} {H : List (Nat × AObj)} {α : Type} (E' : α → List (Nat × AV)) (H' : α → List (Nat × AObj)) (φ : α → Prop) (μ : α → Nat) (x0 : α)
    (h0 : Trims S E H (E' x0) (H' x0)) (hφ : φ x0)
    (round : ∀ x, φ x → AW P S c (AThen (fun s' => ∃ y E2 H2, s' = mkS n E2 H2 ∧ Trims S E2 H2 (E' y) (H' y) ∧ φ y ∧ μ y < μ x) Q) (mkS n (E' x) (H' x))) : AW P S (.loop c) Q (mkS n E H) := by
  refine AW.loop (fun x s => ∃ E2 H2, s = mkS n E2 H2 ∧ Trims S E2 H2 (E' x) (H' x) ∧ φ x) μ x0 ⟨E, H, rfl, h0, hφ⟩ ?_
  rintro x s ⟨E2, H2, rfl, ht, hx⟩
  refine AW.trim (E' x) (H' x) ht.1 ht.2.1 ht.2.2 ?_
  refine AW.mono (round x hx) ?_
  rintro e s h
  cases e with
  | normal =>
    obtain ⟨y, E3, H3, h1, h2, h3, h4⟩ := h
    exact ⟨y, ⟨E3, H3, h1, h2, h3⟩, h4⟩
  | _ => exact h

theorem wrap64 {a : Int} (h1 : -9223372036854775808 ≤ a) (h2 : a ≤ 9223372036854775807) : IntKind.i64.wrap a = a := by
  rw [IntKind.wrap_i64]; omega

end Go.Proofs.YtbcjcekoonebiaaGreat.Tl
