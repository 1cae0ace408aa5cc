/- What an expression comes to, as a plain function; none: what is not covered. Conditions: none. -/
import Derived.Test.YtbcjcekoonebiaaTlV
set_option linter.unusedVariables false
set_option linter.unusedSimpArgs false
namespace Go.Proofs.Ytbcjcekoonebiaa.Tl
open Go Go.RowKit

abbrev mkV (k i : Int) (b : Bool) (s : ByteArray) (t : List Val) : Val := .mk k i b s t
abbrev zeroV : Val := .mk 0 0 false ⟨#[]⟩ []
abbrev W64 (x : Int) : Int := IntKind.i64.wrap x

def oneS (op : ByteArray) (a : Val) : Option Val :=
  if op.data.toList = [110, 101, 103] then some (.mk 1 (W64 (0 - a.i)) false ⟨#[]⟩ [])
  else if op.data.toList = [110, 111, 116] then some (.mk 2 0 (!a.b) ⟨#[]⟩ [])
  else if op.data.toList = [108, 101, 110] then some (.mk 1 a.s.size false ⟨#[]⟩ [])
  else none

def bothS (op : ByteArray) (a b : Val) : Option (Val × Int) :=
  if op.data.toList = [97, 100, 100] then some (.mk 1 (W64 (a.i + b.i)) false ⟨#[]⟩ [], 0)
  else if op.data.toList = [115, 117, 98] then some (.mk 1 (W64 (a.i - b.i)) false ⟨#[]⟩ [], 0)
  else if op.data.toList = [109, 117, 108] then some (.mk 1 (W64 (a.i * b.i)) false ⟨#[]⟩ [], 0)
  else if op.data.toList = [100, 105, 118] then (if b.i = 0 then some (zeroV, 8) else some (.mk 1 (W64 (a.i.tdiv b.i)) false ⟨#[]⟩ [], 0))
  else if op.data.toList = [114, 101, 109] then (if b.i = 0 then some (zeroV, 8) else some (.mk 1 (a.i.tmod b.i) false ⟨#[]⟩ [], 0))
  else if op.data.toList = [101, 113] then some (.mk 2 0 (cmpV a b == 0) ⟨#[]⟩ [], 0)
  else if op.data.toList = [108, 116] then some (.mk 2 0 (decide (cmpV a b < 0)) ⟨#[]⟩ [], 0)
  else if op.data.toList = [99, 97, 116] then (if a.s.size + b.s.size ≤ 9223372036854775807 then (if 255 < a.s.size + b.s.size then some (zeroV, 4) else some (.mk 3 0 false (a.s ++ b.s) [], 0)) else none)
  else none

def chooseS (op : ByteArray) (b : Bool) : Int :=
  if op.data.toList = [105, 102] then (if b then 1 else 2) else if (op.data.toList == [97, 110, 100]) = b then 1 else 0

/-- What is done with the arguments' values. -/
def applyS (op : ByteArray) (n : Int) (l : List Val) : Option (Val × Int) :=
  if op.data.toList = [97, 116] then (match l with
    | [] => none
    | v :: _ => if 0 ≤ n then (match v.t[n.toNat]? with | some w => some (w, 0) | none => none) else none)
  else if op.data.toList = [116, 117, 112] then (match l with
    | [] => none
    | v :: r => if r.length ≤ 1000000 then some (.mk 4 0 false ⟨#[]⟩ (v :: r), 0) else none)
  else match l with
    | [] => none
    | [v] => (match oneS op v with | some w => some (w, 0) | none => none)
    | v :: w :: _ => bothS op v w

def isLazy (op : ByteArray) : Bool := op.data.toList == [97, 110, 100] || op.data.toList == [111, 114] || op.data.toList == [105, 102]

mutual
def evalS : Ex → Val → Option (Val × Int)
  | .mk op v n a, x =>
    if op.data.toList = [108, 105, 116] then some (v, 0)
    else if op.data.toList = [120] then some (x, 0)
    else if isLazy op = true then (match nthS a 0 x with
      | none => none
      | some (w, f) => if f = 0 ∧ 0 < chooseS op w.b then nthS a (chooseS op w.b).toNat x else some (w, f))
    else (match if a.length ≤ 1000000 then allS a x else none with
      | none => none
      | some (l, f) => if f = 0 then applyS op n l else some (zeroV, f))
def allS : List Ex → Val → Option (List Val × Int)
  | [], _ => some ([], 0)
  | e :: r, x => (match evalS e x with
    | none => none
    | some (v, f) => if f = 0 then (match allS r x with
        | none => none
        | some (l, g) => if g = 0 then some (v :: l, 0) else some ([], g)) else some ([], f))
def nthS : List Ex → Nat → Val → Option (Val × Int)
  | [], _, _ => none
  | e :: _, 0, x => evalS e x
  | _ :: r, k + 1, x => nthS r k x
end
theorem evalS_eq (e : Ex) (x : Val) : evalS e x = if e.op.data.toList = [108, 105, 116] then some (e.v, 0)
    else if e.op.data.toList = [120] then some (x, 0)
    else if isLazy e.op = true then (match nthS e.a 0 x with
      | none => none
      | some (w, f) => if f = 0 ∧ 0 < chooseS e.op w.b then nthS e.a (chooseS e.op w.b).toNat x else some (w, f))
    else (match if e.a.length ≤ 1000000 then allS e.a x else none with
      | none => none
      | some (l, f) => if f = 0 then applyS e.op e.n l else some (zeroV, f)) := by
  cases e; rfl
theorem nthS_get : ∀ (l : List Ex) (k : Nat) (x : Val), nthS l k x = match l[k]? with | some e => evalS e x | none => none
  | [], _, _ => by simp [nthS]
  | e :: r, 0, x => by simp [nthS]
  | e :: r, k + 1, x => by simp only [nthS, nthS_get r k x]; simp

/-- What was gathered, with what is still to come. -/
def comb (acc : List Val) : Option (List Val × Int) → Option (List Val × Int)
  | none => none
  | some (l, g) => if g = 0 then some (acc ++ l, 0) else some ([], g)
theorem comb_nil (o : Option (List Val × Int)) (h : ∀ l g, o = some (l, g) → g ≠ 0 → l = []) : comb [] o = o := by
  cases o with
  | none => rfl
  | some p =>
    obtain ⟨l, g⟩ := p
    simp only [comb, List.nil_append]
    split
    · rename_i h0; subst h0; rfl
    · rename_i h0; rw [h l g rfl h0]
theorem allS_err : ∀ (l : List Ex) (x : Val) (vs : List Val) (g : Int), allS l x = some (vs, g) → g ≠ 0 → vs = []
  | [], x, vs, g, h, h0 => by simp [allS] at h; exact absurd h.2.symm h0
  | e :: r, x, vs, g, h, h0 => by
    simp only [allS] at h
    split at h
    · cases h
    · split at h
      · split at h
        · cases h
        · split at h
          · injection h with h; injection h with _ h; exact absurd h.symm h0
          · injection h with h; injection h with h _; exact h.symm
      · injection h with h; injection h with h _; exact h.symm
theorem comb_step {acc : List Val} {e : Ex} {r : List Ex} {x v : Val} (h : evalS e x = some (v, 0)) : comb acc (allS (e :: r) x) = comb (acc ++ [v]) (allS r x) := by
  simp only [allS, h, if_true]
  cases hr : allS r x with
  | none => rfl
  | some p =>
    obtain ⟨l, g⟩ := p
    simp only
    split
    · rename_i h0; subst h0; simp [comb]
    · rename_i h0; simp [comb, h0]
theorem comb_stop {acc : List Val} {e : Ex} {r : List Ex} {x v : Val} {f : Int} (h : evalS e x = some (v, f)) (h0 : f ≠ 0) : comb acc (allS (e :: r) x) = some ([], f) := by
  simp [allS, h, h0, comb]
theorem comb_some {acc : List Val} {e : Ex} {r : List Ex} {x : Val} {p : List Val × Int} (h : comb acc (allS (e :: r) x) = some p) : ∃ q, evalS e x = some q := by
  cases he : evalS e x with
  | none => simp [allS, he, comb] at h
  | some q => exact ⟨q, rfl⟩

theorem nthS_some {l : List Ex} {k : Nat} {x : Val} {r : Val × Int} (h : nthS l k x = some r) : ∃ e, l[k]? = some e ∧ evalS e x = some r := by
  rw [nthS_get] at h
  split at h
  · rename_i e he; exact ⟨e, he, h⟩
  · cases h
theorem evalS_lit {e : Ex} {x : Val} {r : Val × Int} (h : evalS e x = some r) (h1 : e.op.data.toList = [108, 105, 116]) : r = (e.v, 0) := by
  rw [evalS_eq, if_pos h1] at h; injection h with h; exact h.symm
theorem evalS_x {e : Ex} {x : Val} {r : Val × Int} (h : evalS e x = some r) (h1 : ¬ e.op.data.toList = [108, 105, 116]) (h2 : e.op.data.toList = [120]) : r = (x, 0) := by
  rw [evalS_eq, if_neg h1, if_pos h2] at h; injection h with h; exact h.symm
theorem evalS_lazy {e : Ex} {x : Val} {r : Val × Int} (h : evalS e x = some r) (h1 : ¬ e.op.data.toList = [108, 105, 116]) (h2 : ¬ e.op.data.toList = [120]) (h3 : isLazy e.op = true) :
    ∃ e0 w f, e.a[0]? = some e0 ∧ evalS e0 x = some (w, f) ∧ (if f = 0 ∧ 0 < chooseS e.op w.b then nthS e.a (chooseS e.op w.b).toNat x else some (w, f)) = some r := by
  rw [evalS_eq, if_neg h1, if_neg h2, if_pos h3] at h
  cases hn : nthS e.a 0 x with
  | none => rw [hn] at h; cases h
  | some p =>
    obtain ⟨w, f⟩ := p
    rw [hn] at h
    obtain ⟨e0, k1, k2⟩ := nthS_some hn
    exact ⟨e0, w, f, k1, k2, h⟩
theorem evalS_all {e : Ex} {x : Val} {r : Val × Int} (h : evalS e x = some r) (h1 : ¬ e.op.data.toList = [108, 105, 116]) (h2 : ¬ e.op.data.toList = [120]) (h3 : ¬ isLazy e.op = true) :
    ∃ l f, e.a.length ≤ 1000000 ∧ allS e.a x = some (l, f) ∧ (if f = 0 then applyS e.op e.n l else some (zeroV, f)) = some r := by
  rw [evalS_eq, if_neg h1, if_neg h2, if_neg h3] at h
  split at h
  · cases h
  · rename_i l f hl
    split at hl
    · rename_i hb; exact ⟨l, f, hb, hl, h⟩
    · cases hl
theorem applyS_at {op : ByteArray} {n : Int} {l : List Val} {r : Val × Int} (h : applyS op n l = some r) (h1 : op.data.toList = [97, 116]) : ∃ v t w, l = v :: t ∧ 0 ≤ n ∧ v.t[n.toNat]? = some w ∧ r = (w, 0) := by
  unfold applyS at h
  rw [if_pos h1] at h
  split at h
  · cases h
  · rename_i v t
    split at h
    · rename_i h2
      split at h
      · rename_i w hw; injection h with h; exact ⟨v, t, w, rfl, h2, hw, h.symm⟩
      · cases h
    · cases h
theorem applyS_tup {op : ByteArray} {n : Int} {l : List Val} {r : Val × Int} (h : applyS op n l = some r) (h0 : ¬ op.data.toList = [97, 116]) (h1 : op.data.toList = [116, 117, 112]) : ∃ v t, l = v :: t ∧ t.length ≤ 1000000 ∧ r = (.mk 4 0 false ⟨#[]⟩ (v :: t), 0) := by
  unfold applyS at h
  rw [if_neg h0, if_pos h1] at h
  split at h
  · cases h
  · rename_i v t
    split at h
    · rename_i h2; injection h with h; exact ⟨v, t, rfl, h2, h.symm⟩
    · cases h
theorem applyS_one {op : ByteArray} {n : Int} {l : List Val} {r : Val × Int} (h : applyS op n l = some r) (h0 : ¬ op.data.toList = [97, 116]) (h1 : ¬ op.data.toList = [116, 117, 112]) (hl : l.length = 1) : ∃ v w, l = [v] ∧ oneS op v = some w ∧ r = (w, 0) := by
  unfold applyS at h
  rw [if_neg h0, if_neg h1] at h
  split at h
  · cases h
  · rename_i v
    split at h
    · rename_i w hw; injection h with h; exact ⟨v, w, rfl, hw, h.symm⟩
    · cases h
  · rename_i v w t _; simp at hl
theorem applyS_two {op : ByteArray} {n : Int} {l : List Val} {r : Val × Int} (h : applyS op n l = some r) (h0 : ¬ op.data.toList = [97, 116]) (h1 : ¬ op.data.toList = [116, 117, 112]) (hl : ¬ l.length = 1) : ∃ v w t, l = v :: w :: t ∧ bothS op v w = some r := by
  unfold applyS at h
  rw [if_neg h0, if_neg h1] at h
  split at h
  · cases h
  · simp at hl
  · rename_i v w t; exact ⟨v, w, t, rfl, h⟩

end Go.Proofs.Ytbcjcekoonebiaa.Tl
