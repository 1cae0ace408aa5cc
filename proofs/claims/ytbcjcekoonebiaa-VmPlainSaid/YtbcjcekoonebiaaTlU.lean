/- The tree logic, part U: types as trees; lists of plain things. Conditions: none. -/
import Derived.Test.YtbcjcekoonebiaaTlV
import Derived.Test.YtbcjcekoonebiaaTlT
import Derived.Test.YtbcjcekoonebiaaTlR
set_option linter.unusedVariables false
namespace Go.Proofs.Ytbcjcekoonebiaa.Tl
open Go Go.RowKit

inductive Ty where
  | mk (kind : Int) (of : List Ty)
def Ty.kind : Ty → Int | .mk k _ => k
def Ty.of : Ty → List Ty | .mk _ l => l
mutual
def eny1 : Ty → List AV
  | .mk k l => [.int .i64 k, .sl .ro 2 (enys l)]
def enys : List Ty → List (List AV)
  | [] => []
  | v :: r => eny1 v :: enys r
end
abbrev tyC (v : Ty) : List AV := [.int .i64 v.kind, .sl .ro 2 (enys v.of)]
theorem eny1_eq (v : Ty) : eny1 v = tyC v := by cases v; rfl
theorem enys_map (l : List Ty) : enys l = l.map tyC := by
  induction l with
  | nil => rfl
  | cons v r ih => simp only [enys, ih, List.map_cons, eny1_eq]
theorem enys_length (l : List Ty) : (enys l).length = l.length := by rw [enys_map, List.length_map]
theorem enys_get {l : List Ty} {j : Nat} {v : Ty} (h : l[j]? = some v) : (enys l)[j]? = some (tyC v) := by rw [enys_map]; simp [h]
theorem enys_append (l m : List Ty) : enys (l ++ m) = enys l ++ enys m := by simp only [enys_map, List.map_append]
mutual
theorem eny1_pure (S : Nat → Bool) : ∀ v : Ty, inL S (eny1 v) = true
  | .mk k t => by simp only [eny1, inL, inA, enys_pure S t, Bool.and_self]
theorem enys_pure (S : Nat → Bool) : ∀ l : List Ty, inR S (enys l) = true
  | [] => rfl
  | v :: r => by simp only [enys, inR, eny1_pure S v, enys_pure S r, Bool.and_self]
end
theorem tyC_pure (S : Nat → Bool) (v : Ty) : inL S (tyC v) = true := by rw [← eny1_eq]; exact eny1_pure S v

theorem WvR_encs {l : List Val} {rows : List (List AV)} (h : WvR rows (l.map valC)) : WvR rows (encs l) := by rw [encs_map]; exact h
theorem WvR_enxs {l : List Ex} {rows : List (List AV)} (h : WvR rows (l.map exC)) : WvR rows (enxs l) := by rw [enxs_map]; exact h
theorem WvR_enys {l : List Ty} {rows : List (List AV)} (h : WvR rows (l.map tyC)) : WvR rows (enys l) := by rw [enys_map]; exact h
/-- Lists of things, each told by its cells. -/
def rowF {α : Type} (c : α → List AV) (l : List α) : List (List AV) := l.map c
theorem rowF_length {α : Type} (c : α → List AV) (l : List α) : (rowF c l).length = l.length := by simp [rowF]
theorem rowF_get {α : Type} {c : α → List AV} {l : List α} {j : Nat} {x : α} (h : l[j]? = some x) : (rowF c l)[j]? = some (c x) := by simp [rowF, h]
theorem rowF_append {α : Type} (c : α → List AV) (l m : List α) : rowF c (l ++ m) = rowF c l ++ rowF c m := by simp [rowF]
theorem rowF_drop {α : Type} (c : α → List AV) (l : List α) (k : Nat) : ((rowF c l).take l.length).drop k = rowF c (l.drop k) := by
  simp only [rowF]
  rw [List.take_of_length_le (by simp), List.map_drop]
theorem rowF_take {α : Type} (c : α → List AV) (l : List α) (h : Nat) : ((rowF c l).take h).drop 0 = rowF c (l.take h) := by
  simp only [rowF, List.drop_zero, List.map_take]
theorem rowF_td {α : Type} (c : α → List AV) (l : List α) (h k : Nat) : ((rowF c l).take h).drop k = rowF c ((l.take h).drop k) := by
  simp only [rowF, List.map_take, List.map_drop]
/-- An array's version and its rows. -/
structure Ar (α : Type) where
  v : Nat
  l : List α
theorem rowF_tk {α : Type} (c : α → List AV) (l : List α) (k : Nat) : (rowF c l).take k = rowF c (l.take k) := by simp [rowF]
theorem rowF_dp {α : Type} (c : α → List AV) (l : List α) (k : Nat) : (rowF c l).drop k = rowF c (l.drop k) := by simp [rowF]
theorem rowF_set {α : Type} (c : α → List AV) (l : List α) (k : Nat) (x : α) : (rowF c l).set k (c x) = rowF c (l.set k x) := by simp [rowF]
theorem encs_take (l : List Val) (k : Nat) : (encs l).take k = encs (l.take k) := by simp only [encs_map, List.map_take]
theorem encs_drop (l : List Val) (k : Nat) : (encs l).drop k = encs (l.drop k) := by simp only [encs_map, List.map_drop]
theorem encs_set (l : List Val) (k : Nat) (x : Val) : (encs l).set k (valC x) = encs (l.set k x) := by simp only [encs_map, List.map_set]
theorem rowF_all {α : Type} (c : α → List AV) (l : List α) : ((rowF c l).take l.length).drop 0 = rowF c l := by
  simp only [rowF, List.drop_zero]
  rw [List.take_of_length_le (by simp)]
theorem bytesA_rw : ∀ l : List Int, bytesA (rowF (fun x => [.int .u8 x]) l) = some l
  | [] => rfl
  | x :: r => by
    show (bytesA (rowF (fun x => [.int .u8 x]) r)).map (x :: ·) = _
    rw [bytesA_rw r]
    rfl
theorem bI8_length (s : ByteArray) : (bI8 s).length = s.size := by rw [bI8, List.length_map, Array.length_toList]; rfl
theorem bR8_eq (l : List Int) (s : ByteArray) : rowF (fun x => [.int .u8 x]) l ++ bR8 s = rowF (fun x => [.int .u8 x]) (l ++ bI8 s) := by
  simp [rowF, bR8, bI8]
theorem rowF_pure {α : Type} {c : α → List AV} (S : Nat → Bool) (h : ∀ x, inL S (c x) = true) : ∀ l : List α, inR S (rowF c l) = true
  | [] => rfl
  | x :: r => by
    show inR S (c x :: rowF c r) = true
    simp only [inR, h x, rowF_pure S h r, Bool.and_self]
end Go.Proofs.Ytbcjcekoonebiaa.Tl
