/- A law's arguments, as trees. Conditions: none. -/
import Derived.Test.YtbcjcekoonebiaaTlU
import Derived.ChangeArms
import Derived.Carry
set_option linter.unusedVariables false
set_option linter.unusedSimpArgs false
namespace Go.Proofs.Ytbcjcekoonebiaa.Tl
open Go Go.RowKit

/-- All memory as it stands may be read. -/
abbrev Pw (w : World) : Cx := Pu (fun _ _ => True) w
def ones (cs : List Value) : Prop := ∀ u ∈ cs, u.oneCell' = true

theorem RdR.of_get {C : Cx} {sz : Nat} : ∀ {rows : List (List AV)} {b off : Nat}, (∀ i r, rows[i]? = some r → r.length = sz ∧ RdC C r b (off + i * sz)) → RdR C sz rows b off
  | [], b, off, _ => by simp [RdR]
  | r :: rs, b, off, h => by
    simp only [RdR]
    have h0 := h 0 r (by simp)
    simp only [Nat.zero_mul, Nat.add_zero] at h0
    refine ⟨h0.1, h0.2, RdR.of_get fun i q hq => ?_⟩
    have := h (i + 1) q (by simpa using hq)
    rw [show off + sz + i * sz = off + (i + 1) * sz by rw [Nat.add_mul]; omega]
    exact this

section
variable {H : Type} {enc : TypeId × Value → H} {P : Program} {w : World} {base : Nat} {sp : Nat → Bool} {hd : Bool}

theorem open_sl {fuel : Nat} {t e : TypeId} {cs : List Value} {x : DataW H × List MemPlace} (ht : P.underlying t = some (.slice e)) {α : Type} (c : α → List AV) (p : α → Prop) (sz : Nat) (hsz : P.cellsOf e = sz) (h0 : 0 < sz) (hc : ∀ a, (c a).length = sz)
    (ih : ∀ n, n < fuel → ∀ cs x, DataW.trod enc P w base sp hd n e cs = some x → ∃ a : α, RdL (Pw w) (c a) cs ∧ ones cs ∧ p a)
    (h : DataW.trod enc P w base sp hd fuel t cs = some x) : ∃ (l : List α) (v : Value), cs = [v] ∧ Rd (Pw w) (.sl .ro sz (l.map c)) v ∧ v.oneCell' = true ∧ ∀ a ∈ l, p a := by
  rcases DataW.trod_slice ht h with ⟨rfl, rfl⟩ | ⟨a, len, cap, elems, rest, n, rfl, rfl, rfl, hb, hl, hm, hlen, hel, _, _⟩
  · exact ⟨[], .slice none 0 0, rfl, by simp only [Rd]; exact ⟨none, 0, rfl, Nat.le_refl _, by simp, .inl rfl, trivial⟩, rfl, by simp⟩
  · rw [hsz] at hel
    have key : ∀ k, k ≤ len → ∃ l : List α, l.length = k ∧ (∀ i y, l[i]? = some y → ∃ cs', w.cells? base (a.add (i * sz)) sz = some cs' ∧ RdL (Pw w) (c y) cs' ∧ ones cs') ∧ ∀ y ∈ l, p y := by
      intro k
      induction k with
      | zero => intro _; exact ⟨[], rfl, by simp, by simp⟩
      | succ k ihk =>
        intro hk
        obtain ⟨l, q1, q2, q3⟩ := ihk (by omega)
        have h1 := hel k (by omega)
        rw [List.getElem?_eq_getElem (by omega)] at h1
        obtain ⟨cs', h2, h3⟩ := Option.bind_eq_some_iff.1 h1
        obtain ⟨y, k1, k2, k3⟩ := ih n (by omega) cs' _ h3
        refine ⟨l ++ [y], by simp [q1], fun i z hz => ?_, fun z hz => ?_⟩
        · by_cases hi : i < k
          · rw [List.getElem?_append_left (by omega)] at hz; exact q2 i z hz
          · have hik : i = k := by
              have := (List.getElem?_eq_some_iff.1 hz).1
              simp [q1] at this
              omega
            subst hik
            rw [List.getElem?_append_right (by omega), q1] at hz
            simp at hz
            subst hz
            exact ⟨cs', h2, k1, k2⟩
        · rcases List.mem_append.1 hz with hz | hz
          · exact q3 z hz
          · simp at hz; subst hz; exact k3
    obtain ⟨l, q1, q2, q3⟩ := key len (Nat.le_refl _)
    refine ⟨l, .slice (some a) len cap, rfl, ?_, rfl, q3⟩
    simp only [Rd, List.length_map]
    refine ⟨some a, cap, by rw [q1], by omega, by simp only [maxLen] at hm; omega, ?_, trivial⟩
    cases l with
    | nil => exact .inl rfl
    | cons y0 l0 =>
      right
      have hsp : a.spot = none := by
        obtain ⟨cs', k1, _, _⟩ := q2 0 y0 rfl
        obtain ⟨_, k2, k3⟩ := World.cells?_some k1
        have k4 := k3 0 h0
        have hn : cs'[0]? = some (cs'[0]'(by omega)) := List.getElem?_eq_getElem (by omega)
        rw [hn] at k4
        simp only [Nat.zero_mul, Addr.add, if_true] at k4
        unfold World.cell? at k4
        split at k4
        · split at k4
          · cases k4
          · rename_i hs; simpa using hs
        · cases k4
      obtain ⟨b, off, spot⟩ := a
      simp only at hsp
      subst hsp
      refine ⟨b, off, rfl, RdR.of_get fun i r hr => ?_⟩
      rw [List.getElem?_map, Option.map_eq_some_iff] at hr
      obtain ⟨y, hy, rfl⟩ := hr
      obtain ⟨cs', k1, k2, k3⟩ := q2 i y hy
      obtain ⟨_, k4, k5⟩ := World.cells?_some k1
      refine ⟨hc y, RdC.mk k2 k3 (fun j u hj => ?_) (fun j hj => pu_ok fun _ => trivial)⟩
      have hjl : j < cs'.length := (List.getElem?_eq_some_iff.1 hj).1
      have := k5 j (by omega)
      rw [add_plain', add_plain'] at this
      exact this.trans hj

theorem open_i {fuel : Nat} {t : TypeId} {k : IntKind} {cs : List Value} {x : DataW H × List MemPlace} (ht : P.underlying t = some (.int k)) (h : DataW.trod enc P w base sp hd fuel t cs = some x) : ∃ n : Int, cs = [.int k n] ∧ (Lit.int k n).wf = true :=
  let ⟨n, h1, _, h2⟩ := DataW.trod_int ht h; ⟨n, h1, h2⟩
theorem open_b {fuel : Nat} {t : TypeId} {cs : List Value} {x : DataW H × List MemPlace} (ht : P.underlying t = some .bool) (h : DataW.trod enc P w base sp hd fuel t cs = some x) : ∃ b : Bool, cs = [.bool b] :=
  let ⟨n, h1, _⟩ := DataW.trod_bool ht h; ⟨n, h1⟩
theorem open_s {fuel : Nat} {t : TypeId} {cs : List Value} {x : DataW H × List MemPlace} (ht : P.underlying t = some .string) (h : DataW.trod enc P w base sp hd fuel t cs = some x) : ∃ s : ByteArray, cs = [.string s] ∧ s.size ≤ maxLen :=
  let ⟨n, h1, _, h2⟩ := DataW.trod_string ht h; ⟨n, h1, h2⟩
/-- A struct's fields, one by one. -/
theorem open_st {fuel : Nat} {t : TypeId} {fs : Array Field} {cs : List Value} {x : DataW H × List MemPlace} (ht : P.underlying t = some (.struct fs)) (h : DataW.trod enc P w base sp hd fuel t cs = some x) :
    ∃ n, fuel = n + 1 ∧ cs.length = P.cellsOf t ∧ ∀ (i : Nat) (f : Field), fs[i]? = some f → ∃ y, DataW.trod enc P w base sp hd n f.type ((cs.drop f.offset).take (P.cellsOf f.type)) = some y := by
  obtain ⟨xs, n, h1, _, h3, h4, h5⟩ := DataW.trod_struct ht h
  refine ⟨n, h1, h3, fun i f hf => ?_⟩
  have hi : i < fs.size := (Array.getElem?_eq_some_iff.1 hf).1
  have := h5 i f hf
  rw [List.getElem?_eq_getElem (by omega)] at this
  exact ⟨_, this⟩
end

theorem open_fd {H : Type} {enc : TypeId × Value → H} {P : Program} {w : World} {base : Nat} {sp : Nat → Bool} {hd : Bool} {n : Nat} {fs : Array Field} {cs : List Value}
    (hf : ∀ (i : Nat) (f : Field), fs[i]? = some f → ∃ y, DataW.trod enc P w base sp hd n f.type ((cs.drop f.offset).take (P.cellsOf f.type)) = some y) (i : Nat) {f : Field} (h : fs[i]? = some f) (t off sz : Nat) (ht : f.type = t) (ho : f.offset = off) (hs : P.cellsOf t = sz) {cs' : List Value} (hc : (cs.drop off).take sz = cs') :
    ∃ y, DataW.trod enc P w base sp hd n t cs' = some y := by
  subst ht ho hs hc
  exact hf i f h

theorem ok_struct {P : Program} {w : World} {r : Reach} {base : Nat} {t : TypeId} {fs : Array Field} {v : Value} (ht : P.underlying t = some (.struct fs)) (h : Value.okWide P w r base t v) : ∃ cs, v = .agg cs := by
  unfold Value.okWide at h
  rw [ht] at h
  obtain ⟨cs, h, _⟩ := h
  exact ⟨cs, h⟩
theorem ok_slice {P : Program} {w : World} {r : Reach} {base : Nat} {t e : TypeId} {v : Value} (ht : P.underlying t = some (.slice e)) (h : Value.okWide P w r base t v) : ∃ A n c, v = .slice A n c := by
  unfold Value.okWide at h
  rw [ht] at h
  have h : Cell.okWide P w r base t v := h
  unfold Cell.okWide at h
  rw [ht] at h
  have h : Cell.ok P w r base t v := by
    cases v <;> exact h
  unfold Cell.ok at h
  rw [ht] at h
  cases v with
  | slice A n c => exact ⟨A, n, c, rfl⟩
  | _ => exact h.elim
theorem rd_struct {w : World} {c : List AV} {v : Value} {cs : Array Value} (hv : v = .agg cs) (h : RdL (Pw w) c v.cells.toList) (h1 : ones v.cells.toList) : Rd (Pw w) (.agg c) v := by
  subst hv
  simp only [Rd]
  exact ⟨cs, rfl, h, h1⟩
theorem rd_slice {w : World} {x : AV} {v u : Value} {A : Option Addr} {n c : Nat} (hv : v = .slice A n c) (hc : v.cells.toList = [u]) (h : Rd (Pw w) x u) : Rd (Pw w) x v := by
  subst hv
  have : [Value.slice A n c] = [u] := hc
  injection this with this
  rw [this]
  exact h

/-- Numbers within their kind. -/
abbrev in64 (n : Int) : Prop := -9223372036854775808 ≤ n ∧ n ≤ 9223372036854775807
theorem in64_of {n : Int} (h : (Lit.int .i64 n).wf = true) : in64 n := by
  simp only [Lit.wf, Bool.and_eq_true, decide_eq_true_eq] at h
  exact h
mutual
def RgV : Val → Prop
  | .mk k i b s t => in64 k ∧ in64 i ∧ RgVs t
def RgVs : List Val → Prop
  | [] => True
  | x :: r => RgV x ∧ RgVs r
end
mutual
def RgE : Ex → Prop
  | .mk o v m a => RgV v ∧ in64 m ∧ RgEs a
def RgEs : List Ex → Prop
  | [] => True
  | x :: r => RgE x ∧ RgEs r
end
theorem RgVs_of : ∀ {l : List Val}, (∀ a ∈ l, RgV a) → RgVs l
  | [], _ => trivial
  | x :: r, h => ⟨h x (by simp), RgVs_of fun a ha => h a (by simp [ha])⟩
theorem RgEs_of : ∀ {l : List Ex}, (∀ a ∈ l, RgE a) → RgEs l
  | [], _ => trivial
  | x :: r, h => ⟨h x (by simp), RgEs_of fun a ha => h a (by simp [ha])⟩
end Go.Proofs.Ytbcjcekoonebiaa.Tl
