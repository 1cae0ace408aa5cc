/- The tree logic, part V: values and expressions as trees. Conditions: none. -/
import Derived.Test.YtbcjcekoonebiaaTlM
set_option linter.unusedVariables false
namespace Go.Proofs.Ytbcjcekoonebiaa.Tl
open Go Go.RowKit

inductive Val where
  | mk (kind i : Int) (b : Bool) (s : ByteArray) (t : List Val)
def Val.kind : Val → Int | .mk k _ _ _ _ => k
def Val.i : Val → Int | .mk _ i _ _ _ => i
def Val.b : Val → Bool | .mk _ _ b _ _ => b
def Val.s : Val → ByteArray | .mk _ _ _ s _ => s
def Val.t : Val → List Val | .mk _ _ _ _ t => t
mutual
def enc1 : Val → List AV
  | .mk k i b s t => [.int .i64 k, .int .i64 i, .bool b, .str s, .sl .ro 5 (encs t)]
def encs : List Val → List (List AV)
  | [] => []
  | v :: r => enc1 v :: encs r
end
abbrev valC (v : Val) : List AV := [.int .i64 v.kind, .int .i64 v.i, .bool v.b, .str v.s, .sl .ro 5 (encs v.t)]
theorem enc1_eq (v : Val) : enc1 v = valC v := by cases v; rfl
theorem encs_map (l : List Val) : encs l = l.map valC := by
  induction l with
  | nil => rfl
  | cons v r ih => simp only [encs, ih, List.map_cons, enc1_eq]
theorem encs_length (l : List Val) : (encs l).length = l.length := by rw [encs_map, List.length_map]
theorem encs_get {l : List Val} {j : Nat} {v : Val} (h : l[j]? = some v) : (encs l)[j]? = some (valC v) := by rw [encs_map]; simp [h]
theorem encs_append (l m : List Val) : encs (l ++ m) = encs l ++ encs m := by simp only [encs_map, List.map_append]
theorem encs_snoc (l : List Val) (v : Val) : encs (l ++ [v]) = encs l ++ [valC v] := by simp only [encs_map, List.map_append, List.map_cons, List.map_nil]
mutual
theorem enc1_pure (S : Nat → Bool) : ∀ v : Val, inL S (enc1 v) = true
  | .mk k i b s t => by simp only [enc1, inL, inA, encs_pure S t, Bool.and_self]
theorem encs_pure (S : Nat → Bool) : ∀ l : List Val, inR S (encs l) = true
  | [] => rfl
  | v :: r => by simp only [encs, inR, enc1_pure S v, encs_pure S r, Bool.and_self]
end
theorem valC_pure (S : Nat → Bool) (v : Val) : inL S (valC v) = true := by rw [← enc1_eq]; exact enc1_pure S v
mutual
theorem enc1_fz (H : Nat → Option AObj) : ∀ v : Val, fzL H (enc1 v) = enc1 v
  | .mk k i b s t => by simp only [enc1, fzL, fz, encs_fz H t]
theorem encs_fz (H : Nat → Option AObj) : ∀ l : List Val, fzR H (encs l) = encs l
  | [] => rfl
  | v :: r => by simp only [encs, fzR, enc1_fz H v, encs_fz H r]
end
theorem valC_fz (H : Nat → Option AObj) (v : Val) : fzL H (valC v) = valC v := by rw [← enc1_eq]; exact enc1_fz H v

/-- Expressions. -/
inductive Ex where
  | mk (op : ByteArray) (v : Val) (n : Int) (a : List Ex)
def Ex.op : Ex → ByteArray | .mk o _ _ _ => o
def Ex.v : Ex → Val | .mk _ v _ _ => v
def Ex.n : Ex → Int | .mk _ _ n _ => n
def Ex.a : Ex → List Ex | .mk _ _ _ a => a
mutual
def enx1 : Ex → List AV
  | .mk o v n a => [.str o, .int .i64 v.kind, .int .i64 v.i, .bool v.b, .str v.s, .sl .ro 5 (encs v.t), .int .i64 n, .sl .ro 8 (enxs a)]
def enxs : List Ex → List (List AV)
  | [] => []
  | v :: r => enx1 v :: enxs r
end
abbrev exC (e : Ex) : List AV := [.str e.op, .int .i64 e.v.kind, .int .i64 e.v.i, .bool e.v.b, .str e.v.s, .sl .ro 5 (encs e.v.t), .int .i64 e.n, .sl .ro 8 (enxs e.a)]
theorem enx1_eq (v : Ex) : enx1 v = exC v := by cases v; rfl
theorem enxs_map (l : List Ex) : enxs l = l.map exC := by
  induction l with
  | nil => rfl
  | cons v r ih => simp only [enxs, ih, List.map_cons, enx1_eq]
theorem enxs_length (l : List Ex) : (enxs l).length = l.length := by rw [enxs_map, List.length_map]
theorem enxs_get {l : List Ex} {j : Nat} {v : Ex} (h : l[j]? = some v) : (enxs l)[j]? = some (exC v) := by rw [enxs_map]; simp [h]
theorem enxs_append (l m : List Ex) : enxs (l ++ m) = enxs l ++ enxs m := by simp only [enxs_map, List.map_append]
mutual
theorem enx1_pure (S : Nat → Bool) : ∀ v : Ex, inL S (enx1 v) = true
  | .mk o v n a => by simp only [enx1, inL, inA, encs_pure S v.t, enxs_pure S a, Bool.and_self]
theorem enxs_pure (S : Nat → Bool) : ∀ l : List Ex, inR S (enxs l) = true
  | [] => rfl
  | v :: r => by simp only [enxs, inR, enx1_pure S v, enxs_pure S r, Bool.and_self]
end
theorem exC_pure (S : Nat → Bool) (v : Ex) : inL S (exC v) = true := by rw [← enx1_eq]; exact enx1_pure S v
mutual
theorem enx1_fz (H : Nat → Option AObj) : ∀ v : Ex, fzL H (enx1 v) = enx1 v
  | .mk o v n a => by simp only [enx1, fzL, fz, encs_fz H v.t, enxs_fz H a]
theorem enxs_fz (H : Nat → Option AObj) : ∀ l : List Ex, fzR H (enxs l) = enxs l
  | [] => rfl
  | v :: r => by simp only [enxs, fzR, enx1_fz H v, enxs_fz H r]
end

/-- The order of values. -/
def orI : List Int → Int
  | [] => 0
  | x :: r => if x = 0 then orI r else x
def cmpI (x y : Int) : Int := if x < y then -1 else if x > y then 1 else 0
abbrev cmpB (s t : ByteArray) : Int := Lib.compareBytes s.data.toList t.data.toList
def bI (b : Bool) : Int := if b then 1 else 0
mutual
def cmpV : Val → Val → Int
  | .mk k i b s t, w => if orI [cmpI k w.kind, cmpI i w.i, cmpI (bI b) (bI w.b), cmpB s w.s] = 0 then cmpVs t w.t else orI [cmpI k w.kind, cmpI i w.i, cmpI (bI b) (bI w.b), cmpB s w.s]
def cmpVs : List Val → List Val → Int
  | [], [] => 0
  | [], _ :: _ => -1
  | _ :: _, [] => 1
  | x :: xs, y :: ys => if cmpV x y = 0 then cmpVs xs ys else cmpV x y
end
theorem cmpV_eq (v w : Val) : cmpV v w = if orI [cmpI v.kind w.kind, cmpI v.i w.i, cmpI (bI v.b) (bI w.b), cmpB v.s w.s] = 0 then cmpVs v.t w.t else orI [cmpI v.kind w.kind, cmpI v.i w.i, cmpI (bI v.b) (bI w.b), cmpB v.s w.s] := by
  cases v; rfl
theorem drop_get {α : Type} {l : List α} {k : Nat} {x : α} (h : l[k]? = some x) : l.drop k = x :: l.drop (k + 1) := by
  have hlt : k < l.length := (List.getElem?_eq_some_iff.1 h).1
  rw [List.drop_eq_getElem_cons hlt]
  rw [List.getElem?_eq_getElem hlt] at h
  injection h with h
  rw [h]

theorem wnext {k n : Nat} (h : k < n) (hn : n ≤ 9223372036854775807) : some (AV.int .i64 (IntKind.i64.wrap ((k : Int) + 1))) = some (AV.int .i64 ((k + 1 : Nat) : Int)) := by
  rw [wrap64 (by omega) (by omega)]; rfl

end Go.Proofs.Ytbcjcekoonebiaa.Tl
