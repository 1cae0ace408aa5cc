/- The tree logic, part B: the invariant of a call's memory, and the steps that keep it. Conditions: none. -/
import Derived.Test.YtbcjcekoonebiaaTlA
set_option linter.unusedVariables false
set_option linter.unusedSimpArgs false
namespace Go.Proofs.Ytbcjcekoonebiaa.Tl
open Go Go.RowKit

/-- What an object of the call's own is in memory. -/
def Held (C : Cx) (v : Value) : AObj → Prop
  | .box t cells => ∃ b cs, v = .pointer (some ⟨b, 0, none⟩) ∧ C.w0.heap.size ≤ b ∧ C.w.heap[b]? = some (.cells cs t (0, 0)) ∧ RdL C cells cs.toList ∧ ∀ u ∈ cs.toList, u.oneCell' = true
  | .row e sz n => 0 < sz ∧ ∃ xs, C.w.ownsRow C.w0.heap.size e sz v n xs
  | .arr e sz _ rows => 0 < sz ∧ (∀ r ∈ rows, r.length = sz) ∧ ∃ xs, C.w.ownsRow C.w0.heap.size e sz v rows.length xs ∧ RdL C rows.flatten xs ∧ ∀ u ∈ xs, u.oneCell' = true

structure Inv (C : Cx) : Prop where
  below : Below C.w0.heap.size C.w0 C.w
  obj : ∀ id v, C.G id = some v → ∃ o, C.H id = some o ∧ Held C v o
  apart : ∀ id id' v v' b, C.G id = some v → C.G id' = some v' → blk v = some b → blk v' = some b → id = id'
  fresh : ∀ b j, C.w.heap.size ≤ b → C.ok0 b j
  okG : ∀ id v b, C.G id = some v → blk v = some b → ∀ j, C.ok0 b j

theorem cell_lt {w : World} {b j : Nat} {u : Value} (h : w.cell? ⟨b, j, none⟩ = some u) : b < w.heap.size := World.block_lt_of_cell? w ⟨b, j, none⟩ h
theorem cell_eq {w w' : World} {b j : Nat} (h : w'.heap[b]? = w.heap[b]?) : w'.cell? ⟨b, j, none⟩ = w.cell? ⟨b, j, none⟩ := World.cell?_of_block (w := w) (a := ⟨b, j, none⟩) h
theorem cell_of {w : World} {b j : Nat} {cs : Array Value} {t : TypeId} {fr : Nat × Nat} (h : w.heap[b]? = some (.cells cs t fr)) : w.cell? ⟨b, j, none⟩ = cs[j]? := by simp [World.cell?, h]

theorem Held.blk {C : Cx} {v : Value} {o : AObj} (h : Held C v o) {b : Nat} (hb : blk v = some b) : C.w0.heap.size ≤ b ∧ b < C.w.heap.size := by
  cases o with
  | box t cells =>
    obtain ⟨b', cs, rfl, h1, h2, _⟩ := h
    simp [Tl.blk] at hb
    subst hb
    exact ⟨h1, (Array.getElem?_eq_some_iff.1 h2).1⟩
  | row e sz n =>
    obtain ⟨_, xs, h⟩ := h
    refine h.lt b ?_
    rcases h.2 with ⟨rfl, _⟩ | ⟨g, cap, cur, rfl, _⟩ <;> simp_all [Tl.blk, Value.ownBlock]
  | arr e sz ver rows =>
    obtain ⟨_, _, xs, h, _, _⟩ := h
    refine h.lt b ?_
    rcases h.2 with ⟨rfl, _⟩ | ⟨g, cap, cur, rfl, _⟩ <;> simp_all [Tl.blk, Value.ownBlock]
theorem own_blk {w : World} {base : Nat} {e : TypeId} {sz : Nat} {v : Value} {n : Nat} {xs : List Value} (h : w.ownsRow base e sz v n xs) (b : Nat) : blk v = some b ↔ v.ownBlock = some b := by
  rcases h.2 with ⟨rfl, _⟩ | ⟨g, cap, cur, rfl, _⟩ <;> simp [Tl.blk, Value.ownBlock]
theorem own_kept {w w' : World} {base : Nat} {e : TypeId} {sz : Nat} {v : Value} {n : Nat} {xs : List Value} (h : w.ownsRow base e sz v n xs) (hk : ∀ b, blk v = some b → w'.heap[b]? = w.heap[b]?) : w'.ownsRow base e sz v n xs := by
  refine ⟨h.1, ?_⟩
  rcases h.2 with h2 | ⟨g, cap, cur, rfl, h3, h4, h5⟩
  · exact .inl h2
  · exact .inr ⟨g, cap, cur, rfl, h3, (hk g rfl).trans h4, h5⟩
/-- An object whose block stays is held on. -/
theorem Held.kept {C C' : Cx} (hle : Le C C') (h0 : C'.w0 = C.w0) {v : Value} {o : AObj} (h : Held C v o) (hk : ∀ b, Tl.blk v = some b → C'.w.heap[b]? = C.w.heap[b]?) : Held C' v o := by
  cases o with
  | box t cells =>
    obtain ⟨b, cs, rfl, q1, q2, q3, q4⟩ := h
    exact ⟨b, cs, rfl, by rw [h0]; exact q1, (hk b rfl).trans q2, q3.le hle, q4⟩
  | row e sz n =>
    obtain ⟨hz, xs, h⟩ := h
    exact ⟨hz, xs, by rw [h0]; exact own_kept h hk⟩
  | arr e sz ver rows =>
    obtain ⟨hz, hr, xs, h, h2, h3⟩ := h
    exact ⟨hz, hr, xs, by rw [h0]; exact own_kept h hk, h2.le hle, h3⟩

/-- All blocks of a call that are not what it writes itself stay; what it has told lasts. -/
theorem Inv.moved {C : Cx} (hI : Inv C) {w' : World} (hb : Below C.w.heap.size C.w w') : Inv { C with w := w' } ∧ Le C { C with w := w' } := by
  have hle : Le C { C with w := w' } := ⟨fun b j u h1 h2 => ⟨h1, (cell_eq (hb.block b (cell_lt h2))).trans h2⟩, fun _ _ h => h, fun _ _ _ h => h, fun _ _ _ _ h => h, hb.size, fun b hlt hn => ⟨hb.block b hlt, hn⟩⟩
  refine ⟨⟨?_, fun id v hv => ?_, hI.apart, fun b j h => hI.fresh b j (Nat.le_trans hb.size h), hI.okG⟩, hle⟩
  · exact hI.below.trans ⟨hb.os, hb.tape, hb.output, hb.size, fun k hk => hb.block k (Nat.lt_of_lt_of_le hk hI.below.size)⟩
  · obtain ⟨o, h1, h2⟩ := hI.obj id v hv
    exact ⟨o, h1, Held.kept hle rfl h2 fun b q => hb.block b (Held.blk h2 q).2⟩

def upd {β : Type} (f : Nat → Option β) (i : Nat) (x : β) : Nat → Option β := fun j => if j = i then some x else f j
theorem upd_same {β : Type} (f : Nat → Option β) (i : Nat) (x : β) : upd f i x i = some x := by simp [upd]
theorem upd_ne {β : Type} (f : Nat → Option β) {i j : Nat} (x : β) (h : j ≠ i) : upd f i x j = f j := by simp [upd, h]

/-- A new object, in a new block. -/
theorem Inv.new {C : Cx} (hI : Inv C) (id : Nat) (hH : C.H id = none) (cs : Array Value) (t : TypeId) (v : Value) (o : AObj) (hv : blk v = some C.w.heap.size)
    (ho : ∀ C' : Cx, C' = { C with H := upd C.H id o, G := upd C.G id v, w := C.w.alloc (.cells cs t) } → Le C C' → C'.w.heap[C.w.heap.size]? = some (.cells cs t (0, 0)) → C.w0.heap.size ≤ C.w.heap.size → Held C' v o) :
    Inv { C with H := upd C.H id o, G := upd C.G id v, w := C.w.alloc (.cells cs t) } ∧ Le C { C with H := upd C.H id o, G := upd C.G id v, w := C.w.alloc (.cells cs t) } := by
  have hG : C.G id = none := by
    cases h : C.G id with
    | none => rfl
    | some v' => obtain ⟨o', h1, _⟩ := hI.obj id v' h; rw [hH] at h1; cases h1
  have hb : Below C.w.heap.size C.w (C.w.alloc (.cells cs t)) := (Below.refl _ _).alloc (Nat.le_refl _) _
  have hle : Le C { C with H := upd C.H id o, G := upd C.G id v, w := C.w.alloc (.cells cs t) } := by
    refine ⟨fun b j u h1 h2 => ⟨⟨h1.1, fun id' v' h3 h4 => ?_⟩, (cell_eq (hb.block b (cell_lt h2))).trans h2⟩, fun id' b h => ?_, fun id' n v' h => ?_, fun id' n z v' h => ?_, hb.size, fun b hlt hn => ⟨hb.block b hlt, fun id' v' h1 h2 => ?_⟩⟩
    · by_cases e : id' = id
      · subst e
        simp only [upd_same] at h3
        injection h3 with h3
        subst h3
        rw [hv] at h4
        injection h4 with h4
        have := cell_lt h2
        omega
      · simp only [upd_ne _ _ e] at h3 ⊢
        exact h1.2 id' v' h3 h4
    · by_cases e : id' = id
      · subst e; rw [hG] at h; cases h
      · simpa only [upd_ne _ _ e] using h
    · obtain ⟨e, sz, m, h1, h2, h3⟩ := h
      by_cases e' : id' = id
      · subst e'; rw [hH] at h1; cases h1
      · exact ⟨e, sz, m, by simpa only [upd_ne _ _ e'] using h1, h2, fun q => by simpa only [upd_ne _ _ e'] using h3 q⟩
    · obtain ⟨sh, e, sz, m, rs, h1, h2, h3⟩ := h
      by_cases e' : id' = id
      · subst e'; rw [hH] at h1; cases h1
      · exact ⟨sh, e, sz, m, rs, by simpa only [upd_ne _ _ e'] using h1, h2, fun q => by simpa only [upd_ne _ _ e'] using h3 q⟩
    · by_cases e : id' = id
      · subst e
        simp only [upd_same] at h1
        injection h1 with h1
        subst h1
        rw [hv] at h2
        injection h2 with h2
        omega
      · simp only [upd_ne _ _ e] at h1
        exact hn id' v' h1 h2
  refine ⟨⟨?_, fun id' v' hv' => ?_, fun id1 id2 v1 v2 b h1 h2 h3 h4 => ?_, fun b j h => hI.fresh b j (Nat.le_trans hb.size h), fun id' v' b h1 h2 j => ?_⟩, hle⟩
  · exact hI.below.alloc hI.below.size _
  · by_cases e : id' = id
    · subst e
      simp only [upd_same] at hv' ⊢
      injection hv' with hv'
      subst hv'
      exact ⟨o, rfl, ho _ rfl hle (heap_alloc_new C.w _) hI.below.size⟩
    · simp only [upd_ne _ _ e] at hv' ⊢
      obtain ⟨o', k1, k2⟩ := hI.obj id' v' hv'
      exact ⟨o', k1, Held.kept hle rfl k2 fun b q => hb.block b (Held.blk k2 q).2⟩
  · have old : ∀ id' v' b', C.G id' = some v' → blk v' = some b' → b' < C.w.heap.size := fun id' v' b' q1 q2 => by
      obtain ⟨o', _, k2⟩ := hI.obj id' v' q1
      exact (Held.blk k2 q2).2
    by_cases e1 : id1 = id <;> by_cases e2 : id2 = id
    · rw [e1, e2]
    · subst e1
      simp only [upd_same, upd_ne _ _ e2] at h1 h2
      injection h1 with h1
      subst h1
      rw [hv] at h3
      injection h3 with h3
      have := old _ _ _ h2 h4
      omega
    · subst e2
      simp only [upd_same, upd_ne _ _ e1] at h1 h2
      injection h2 with h2
      subst h2
      rw [hv] at h4
      injection h4 with h4
      have := old _ _ _ h1 h3
      omega
    · simp only [upd_ne _ _ e1, upd_ne _ _ e2] at h1 h2
      exact hI.apart id1 id2 v1 v2 b h1 h2 h3 h4
  · by_cases e : id' = id
    · subst e
      simp only [upd_same] at h1
      injection h1 with h1
      subst h1
      rw [hv] at h2
      injection h2 with h2
      exact hI.fresh b j (by omega)
    · simp only [upd_ne _ _ e] at h1
      exact hI.okG id' v' b h1 h2 j

/-- A variable's cells are written. -/
theorem Inv.wrote {C : Cx} (hI : Inv C) {id : Nat} {b : Nat} {t : TypeId} {cells : List AV} (hG : C.G id = some (.pointer (some ⟨b, 0, none⟩))) (hH : C.H id = some (.box t cells)) (cells' : List AV) (cs' : Array Value) (w' : World)
    (hb : w'.heap[b]? = some (.cells cs' t (0, 0))) (hk : ∀ k, k ≠ b → w'.heap[k]? = C.w.heap[k]?) (hs : w'.heap.size = C.w.heap.size) (hos : w'.os = C.w.os) (htp : w'.tape = C.w.tape) (hout : w'.output = C.w.output)
    (hr : RdL C cells' cs'.toList) (h1 : ∀ u ∈ cs'.toList, u.oneCell' = true) :
    Inv { C with H := upd C.H id (.box t cells'), w := w' } ∧ Le C { C with H := upd C.H id (.box t cells'), w := w' } := by
  obtain ⟨o, ho, hheld⟩ := hI.obj id _ hG
  rw [hH] at ho
  injection ho with ho
  subst ho
  obtain ⟨b0, cs0, e0, hge, hcs0, _, _⟩ := hheld
  injection e0 with e0
  injection e0 with e0
  injection e0 with e0 _ _
  subst e0
  have hne : ∀ b' j, C.ok b' j → b' ≠ b := by
    rintro b' j h rfl
    obtain ⟨e, sz, n, q, _⟩ := h.2 id _ hG rfl
    rw [hH] at q
    cases q
  have hle : Le C { C with H := upd C.H id (.box t cells'), w := w' } := by
    refine ⟨fun b' j u k1 k2 => ⟨⟨k1.1, fun id' v' k3 k4 => ?_⟩, (cell_eq (hk b' (hne b' j k1))).trans k2⟩, fun _ _ h => h, fun id' n v h => ?_, fun id' n z v h => ?_, by rw [hs]; exact Nat.le_refl _, fun b' _ hn => ⟨hk b' (fun q => hn id _ hG (by rw [q]; rfl)), hn⟩⟩
    · by_cases e : id' = id
      · subst e
        obtain ⟨e', sz, n, q', _⟩ := k1.2 _ _ k3 k4
        rw [hH] at q'
        cases q'
      · simp only [upd_ne _ _ e]
        exact k1.2 id' v' k3 k4
    · obtain ⟨e, sz, m, q1, q2, q3⟩ := h
      by_cases e' : id' = id
      · subst e'; rw [hH] at q1; cases q1
      · exact ⟨e, sz, m, by simpa only [upd_ne _ _ e'] using q1, q2, q3⟩
    · obtain ⟨sh, e, sz, m, rs, q1, q2, q3⟩ := h
      by_cases e' : id' = id
      · subst e'; rw [hH] at q1; cases q1
      · exact ⟨sh, e, sz, m, rs, by simpa only [upd_ne _ _ e'] using q1, q2, q3⟩
  refine ⟨⟨?_, fun id' v hv => ?_, hI.apart, fun b j h => hI.fresh b j (by rw [← hs]; exact h), hI.okG⟩, hle⟩
  · exact ⟨hos.trans hI.below.os, htp.trans hI.below.tape, hout.trans hI.below.output, by rw [hs]; exact hI.below.size, fun k hk' => (hk k (by have h9 : k < C.w0.heap.size := hk'; omega)).trans (hI.below.block k hk')⟩
  · by_cases e : id' = id
    · subst e
      simp only [upd_same]
      have hv' : C.G id' = some v := hv
      rw [hG] at hv'
      injection hv' with hv'
      subst hv'
      exact ⟨_, rfl, b, cs', rfl, hge, hb, hr.le hle, h1⟩
    · simp only [upd_ne _ _ e]
      obtain ⟨o', k1, k2⟩ := hI.obj id' v hv
      have hnb : ∀ b', blk v = some b' → b' ≠ b := fun b' q q2 => e (hI.apart id' id v _ b' hv hG q (by rw [q2]; rfl))
      exact ⟨o', k1, Held.kept hle rfl k2 fun b2 q => hk b2 (hnb b2 q)⟩

/-- A row of the call's own, appended to: 'v' it was, 'v2' it is. -/
theorem Inv.appended {C : Cx} (hI : Inv C) {id : Nat} {e : TypeId} {sz n m : Nat} {v v2 : Value} (hG : C.G id = some v) (hH : C.H id = some (.row e sz n)) (hm : 0 < m) (w' : World) (xs news : List Value)
    (hx : C.w.ownsRow C.w0.heap.size e sz v n xs) (ho : w'.ownsRow C.w0.heap.size e sz v2 (n + m) (xs ++ news)) (hg : C.w.grownBy w' v.ownBlock) (hat : (v2.ownBlock = v.ownBlock ∧ v.ownBlock ≠ none) ∨ (v2.ownBlock = some C.w.heap.size ∧ Below C.w.heap.size C.w w')) :
    Inv { C with H := upd C.H id (.row e sz (n + m)), G := upd C.G id v2, w := w' } ∧ Le C { C with H := upd C.H id (.row e sz (n + m)), G := upd C.G id v2, w := w' } := by
  obtain ⟨o, ho', hheld⟩ := hI.obj id _ hG
  rw [hH] at ho'
  injection ho' with ho'
  subst ho'
  have hz := hheld.1
  have hnn : xs.length = n * sz := hx.1
  have hob : ∀ (v : Value) (n : Nat) (xs : List Value) (w : World), w.ownsRow C.w0.heap.size e sz v n xs → ∀ b, blk v = some b ↔ v.ownBlock = some b := by
    intro v n xs w h b
    rcases h.2 with ⟨rfl, _⟩ | ⟨g, cap, cur, rfl, _⟩ <;> simp [Tl.blk, Value.ownBlock]
  have oldlt : ∀ id' v' b', C.G id' = some v' → blk v' = some b' → b' < C.w.heap.size := fun id' v' b' q1 q2 => by
    obtain ⟨o', _, k2⟩ := hI.obj id' v' q1
    exact (Held.blk k2 q2).2
  have hle : Le C { C with H := upd C.H id (.row e sz (n + m)), G := upd C.G id v2, w := w' } := by
    refine ⟨fun b j u k1 k2 => ⟨⟨k1.1, fun id' v' k3 k4 => ?_⟩, ?_⟩, fun id' b h => ?_, fun id' k v' h => ?_, fun id' k z v' h => ?_, hg.size, fun b hlt hn => ⟨hg.block b hlt (fun q => hn id v hG ((hob v _ _ _ hx b).2 q.symm)), fun id' v' h1 h2 => ?_⟩⟩
    · by_cases e' : id' = id
      · subst e'
        simp only [upd_same] at k3 ⊢
        injection k3 with k3
        subst k3
        refine ⟨e, sz, n + m, rfl, ?_⟩
        rcases hat with ⟨h1, h2⟩ | ⟨h1, _⟩
        · have hb := (hob v2 _ _ _ ho b).1 k4
          rw [h1] at hb
          obtain ⟨e1, sz1, n1, q1, q2⟩ := k1.2 id' v hG ((hob v _ _ _ hx b).2 hb)
          rw [hH] at q1
          injection q1 with q1
          injection q1 with _ q4 q5
          subst q4 q5
          rw [Nat.add_mul]
          omega
        · have hb := (hob v2 _ _ _ ho b).1 k4
          rw [h1] at hb
          injection hb with hb
          have := cell_lt k2
          omega
      · simp only [upd_ne _ _ e'] at k3 ⊢
        exact k1.2 id' v' k3 k4
    · by_cases hbv : v.ownBlock = some b
      · rcases hat with ⟨h1, h2⟩ | ⟨_, h2⟩
        · obtain ⟨e1, sz1, n1, q1, q2⟩ := k1.2 id v hG ((hob v _ _ _ hx b).2 hbv)
          rw [hH] at q1
          injection q1 with q1
          injection q1 with _ q4 q5
          subst q4 q5
          have a1 : xs[j]? = some (xs[j]'(by omega)) := List.getElem?_eq_getElem (by omega)
          have c1 := hx.cells hbv j _ a1
          have c2 := ho.cells (h1.trans hbv) j (xs[j]'(by omega)) (by rw [List.getElem?_append_left (by omega)]; exact a1)
          have hadd : (⟨b, 0, none⟩ : Addr).add j = ⟨b, j, none⟩ := by unfold Addr.add; split <;> simp_all
          rw [hadd] at c1 c2
          show w'.cell? ⟨b, j, none⟩ = some u
          rw [c2, ← c1]
          exact k2
        · exact (cell_eq (h2.block b (cell_lt k2))).trans k2
      · exact (cell_eq (hg.block b (cell_lt k2) (fun q => hbv q.symm))).trans k2
    · by_cases e' : id' = id
      · subst e'
        rw [hG] at h
        injection h with h
        rcases hx.2 with ⟨rfl, _⟩ | ⟨g, cap, cur, rfl, _⟩ <;> cases h
      · simpa only [upd_ne _ _ e'] using h
    · obtain ⟨e1, sz1, m1, q1, q2, q3⟩ := h
      by_cases e' : id' = id
      · subst e'
        rw [hH] at q1
        injection q1 with q1
        injection q1 with q4 q5 q6
        subst q6
        exact ⟨e, sz, n + m, by simp only [upd_same], by omega, fun q => by omega⟩
      · exact ⟨e1, sz1, m1, by simpa only [upd_ne _ _ e'] using q1, q2, fun q => by simpa only [upd_ne _ _ e'] using q3 q⟩
    · obtain ⟨sh, e1, sz1, m1, rs, q1, q2, q3⟩ := h
      by_cases e' : id' = id
      · subst e'; rw [hH] at q1; cases q1
      · exact ⟨sh, e1, sz1, m1, rs, by simpa only [upd_ne _ _ e'] using q1, q2, fun q => by simpa only [upd_ne _ _ e'] using q3 q⟩
    · by_cases e' : id' = id
      · subst e'
        simp only [upd_same] at h1
        injection h1 with h1
        subst h1
        have h5 := (hob v2 _ _ _ ho b).1 h2
        rcases hat with ⟨h6, _⟩ | ⟨h6, _⟩
        · rw [h6] at h5
          exact hn id' v hG ((hob v _ _ _ hx b).2 h5)
        · rw [h6] at h5
          injection h5 with h5
          omega
      · simp only [upd_ne _ _ e'] at h1
        exact hn id' v' h1 h2
  refine ⟨⟨?_, fun id' v' hv => ?_, fun id1 id2 v1 v3 b h1 h2 h3 h4 => ?_, fun b j h => hI.fresh b j (Nat.le_trans hg.size h), fun id' v' b h1 h2 j => ?_⟩, hle⟩
  · exact hI.below.grown hg hI.below.size (fun k q => (hx.lt k q).1)
  · by_cases e' : id' = id
    · subst e'
      simp only [upd_same] at hv ⊢
      injection hv with hv
      subst hv
      exact ⟨_, rfl, hz, _, ho⟩
    · simp only [upd_ne _ _ e'] at hv ⊢
      obtain ⟨o', k1, k2⟩ := hI.obj id' v' hv
      have hnb : ∀ b', blk v' = some b' → v.ownBlock ≠ some b' := fun b' q q2 => e' (hI.apart id' id v' v b' hv hG q ((hob v _ _ _ hx b').2 q2))
      exact ⟨o', k1, Held.kept hle rfl k2 fun b2 q => hg.block b2 (Held.blk k2 q).2 (fun q2 => hnb b2 q q2.symm)⟩
  · have hnew : ∀ id' v' b', id' ≠ id → C.G id' = some v' → blk v' = some b' → blk v2 = some b' → False := fun id' v' b' q1 q2 q3 q4 => by
      have h5 := (hob v2 _ _ _ ho b').1 q4
      rcases hat with ⟨h6, _⟩ | ⟨h6, _⟩
      · rw [h6] at h5
        exact q1 (hI.apart id' id v' v b' q2 hG q3 ((hob v _ _ _ hx b').2 h5))
      · rw [h6] at h5
        injection h5 with h5
        have := oldlt _ _ _ q2 q3
        omega
    by_cases e1 : id1 = id <;> by_cases e2 : id2 = id
    · rw [e1, e2]
    · subst e1
      simp only [upd_same, upd_ne _ _ e2] at h1 h2
      injection h1 with h1
      subst h1
      exact (hnew id2 v3 b e2 h2 h4 h3).elim
    · subst e2
      simp only [upd_same, upd_ne _ _ e1] at h1 h2
      injection h2 with h2
      subst h2
      exact (hnew id1 v1 b e1 h1 h3 h4).elim
    · simp only [upd_ne _ _ e1, upd_ne _ _ e2] at h1 h2
      exact hI.apart id1 id2 v1 v3 b h1 h2 h3 h4
  · by_cases e' : id' = id
    · subst e'
      simp only [upd_same] at h1
      injection h1 with h1
      subst h1
      have h5 := (hob v2 _ _ _ ho b).1 h2
      rcases hat with ⟨h6, _⟩ | ⟨h6, _⟩
      · rw [h6] at h5
        exact hI.okG id' v b hG ((hob v _ _ _ hx b).2 h5) j
      · rw [h6] at h5
        injection h5 with h5
        exact hI.fresh b j (by omega)
    · simp only [upd_ne _ _ e'] at h1
      exact hI.okG id' v' b h1 h2 j

/-- An array of the call's own, changed: 'v' its header was, 'v2' it is. -/
theorem Inv.arrUp {C : Cx} (hI : Inv C) {id : Nat} {e : TypeId} {sz ver ver' : Nat} {rows rows' : List (List AV)} {v v2 : Value} (hG : C.G id = some v) (hH : C.H id = some (.arr e sz ver rows)) (hv : ver < ver' ∨ (ver = ver' ∧ v2 = v ∧ rows'.length = rows.length)) (w' : World) (xs' : List Value)
    (ho : w'.ownsRow C.w0.heap.size e sz v2 rows'.length xs') (hrl : ∀ r ∈ rows', r.length = sz) (hrd : RdL C rows'.flatten xs') (h1 : ∀ u ∈ xs', u.oneCell' = true) (hg : C.w.grownBy w' v.ownBlock) (hat : v2.ownBlock = v.ownBlock ∨ v2.ownBlock = some C.w.heap.size) :
    Inv { C with H := upd C.H id (.arr e sz ver' rows'), G := upd C.G id v2, w := w' } ∧ Le C { C with H := upd C.H id (.arr e sz ver' rows'), G := upd C.G id v2, w := w' } := by
  obtain ⟨o, ho', hheld⟩ := hI.obj id _ hG
  rw [hH] at ho'
  injection ho' with ho'
  subst ho'
  obtain ⟨hz, _, xs, hx, _, _⟩ := hheld
  have oldlt : ∀ id' v' b', C.G id' = some v' → blk v' = some b' → b' < C.w.heap.size := fun id' v' b' q1 q2 => by
    obtain ⟨o', _, k2⟩ := hI.obj id' v' q1
    exact (Held.blk k2 q2).2
  have hne : ∀ b j, C.ok b j → blk v ≠ some b := by
    intro b j h q
    obtain ⟨e', sz', n', q', _⟩ := h.2 id _ hG q
    rw [hH] at q'
    cases q'
  have hv2 : ∀ b, blk v2 = some b → blk v = some b ∨ b = C.w.heap.size := fun b q => by
    have := (own_blk ho b).1 q
    rcases hat with h | h
    · rw [h] at this; exact .inl ((own_blk hx b).2 this)
    · rw [h] at this; injection this with this; exact .inr this.symm
  have hkeep : ∀ b, b < C.w.heap.size → blk v ≠ some b → w'.heap[b]? = C.w.heap[b]? := fun b hb hn => hg.block b hb (fun q => hn ((own_blk hx b).2 q.symm))
  have hle : Le C { C with H := upd C.H id (.arr e sz ver' rows'), G := upd C.G id v2, w := w' } := by
    refine ⟨fun b j u k1 k2 => ⟨⟨k1.1, fun id' v' k3 k4 => ?_⟩, (cell_eq (hkeep b (cell_lt k2) (hne b j k1))).trans k2⟩, fun id' b h => ?_, fun id' k v' h => ?_, fun id' k z v' h => ?_, hg.size, fun b hlt hn => ⟨hkeep b hlt (hn id v hG), fun id' v' h1 h2 => ?_⟩⟩
    · by_cases e' : id' = id
      · subst e'
        simp only [upd_same] at k3
        injection k3 with k3
        subst k3
        rcases hv2 b k4 with q | q
        · exact absurd q (hne b j k1)
        · have := cell_lt k2; omega
      · simp only [upd_ne _ _ e'] at k3 ⊢
        exact k1.2 id' v' k3 k4
    · by_cases e' : id' = id
      · subst e'
        rw [hG] at h
        injection h with h
        rcases hx.2 with ⟨rfl, _⟩ | ⟨g, cap, cur, rfl, _⟩ <;> cases h
      · simpa only [upd_ne _ _ e'] using h
    · obtain ⟨e1, sz1, m1, q1, q2, q3⟩ := h
      by_cases e' : id' = id
      · subst e'; rw [hH] at q1; cases q1
      · exact ⟨e1, sz1, m1, by simpa only [upd_ne _ _ e'] using q1, q2, fun q => by simpa only [upd_ne _ _ e'] using q3 q⟩
    · obtain ⟨sh, e1, sz1, m1, rs, q1, q2, q3⟩ := h
      by_cases e' : id' = id
      · subst e'
        rw [hH] at q1
        injection q1 with q1
        injection q1 with a1 a2 a3 a4
        subst a1 a2 a3 a4
        rcases hv with hv | ⟨rfl, rfl, hln⟩
        · exact ⟨sh, e, sz, ver', rows', by simp only [upd_same], by omega, fun q => by omega⟩
        · refine ⟨sh, e, sz, ver, rows', by simp only [upd_same], q2, fun q => ?_⟩
          obtain ⟨g, g1, g2⟩ := q3 q
          rw [hG] at g1
          injection g1 with g1
          subst g1
          exact ⟨v2, by simp only [upd_same], by rw [hln]; exact g2⟩
      · exact ⟨sh, e1, sz1, m1, rs, by simpa only [upd_ne _ _ e'] using q1, q2, fun q => by simpa only [upd_ne _ _ e'] using q3 q⟩
    · by_cases e' : id' = id
      · subst e'
        simp only [upd_same] at h1
        injection h1 with h1
        subst h1
        rcases hv2 b h2 with q | q
        · exact hn id' v hG q
        · omega
      · simp only [upd_ne _ _ e'] at h1
        exact hn id' v' h1 h2
  refine ⟨⟨?_, fun id' v' hv' => ?_, fun id1 id2 v1 v3 b h1 h2 h3 h4 => ?_, fun b j h => hI.fresh b j (Nat.le_trans hg.size h), fun id' v' b h1 h2 j => ?_⟩, hle⟩
  · exact hI.below.grown hg hI.below.size (fun k q => (hx.lt k q).1)
  · by_cases e' : id' = id
    · subst e'
      simp only [upd_same] at hv' ⊢
      injection hv' with hv'
      subst hv'
      exact ⟨_, rfl, hz, hrl, xs', ho, hrd.le hle, h1⟩
    · simp only [upd_ne _ _ e'] at hv' ⊢
      obtain ⟨o', k1, k2⟩ := hI.obj id' v' hv'
      exact ⟨o', k1, Held.kept hle rfl k2 fun b2 q => hkeep b2 (Held.blk k2 q).2 (fun q2 => e' (hI.apart id' id v' v b2 hv' hG q q2))⟩
  · have hnew : ∀ id' v' b', id' ≠ id → C.G id' = some v' → blk v' = some b' → blk v2 = some b' → False := fun id' v' b' q1 q2 q3 q4 => by
      rcases hv2 b' q4 with q | q
      · exact q1 (hI.apart id' id v' v b' q2 hG q3 q)
      · have := oldlt _ _ _ q2 q3
        omega
    by_cases e1 : id1 = id <;> by_cases e2 : id2 = id
    · rw [e1, e2]
    · subst e1
      simp only [upd_same, upd_ne _ _ e2] at h1 h2
      injection h1 with h1
      subst h1
      exact (hnew id2 v3 b e2 h2 h4 h3).elim
    · subst e2
      simp only [upd_same, upd_ne _ _ e1] at h1 h2
      injection h2 with h2
      subst h2
      exact (hnew id1 v1 b e1 h1 h3 h4).elim
    · simp only [upd_ne _ _ e1, upd_ne _ _ e2] at h1 h2
      exact hI.apart id1 id2 v1 v3 b h1 h2 h3 h4
  · by_cases e' : id' = id
    · subst e'
      simp only [upd_same] at h1
      injection h1 with h1
      subst h1
      rcases hv2 b h2 with q | q
      · exact hI.okG id' v b hG q j
      · exact hI.fresh b j (by omega)
    · simp only [upd_ne _ _ e'] at h1
      exact hI.okG id' v' b h1 h2 j

/-- The builtin append, at a row of the call's own. -/
theorem run_app {P : Program} (w : World) (base : Nat) (t ty e : TypeId) (i : TypeInfo) (z : Value) (size bytes : Nat) (ht : P.underlying t = some (.slice e)) (hi : P.info? e = some i) (hz : i.zero = some z)
    (hsize : i.size = size) (hby : i.bytes = bytes) (hzs : z.cells.size = size) (hsz : 0 < size)
    (v : Value) (n : Nat) (xs : List Value) (hown : w.ownsRow base e size v n xs)
    (a : Addr) (m c : Nat) (news : List Value) (hl : news.length = m * size) (hnews : ∀ j u, news[j]? = some u → w.cell? (a.add j) = some u) (h1 : ∀ u ∈ news, u.oneCell' = true)
    (hm : 0 < m) (h63 : n + m ≤ maxLen) (hbytes : (n + m) * bytes ≤ 140737488355328) (hbase : base ≤ w.heap.size) :
    ∃ v' w', (Builtin.append_ #[t, t] ty #[v, .slice (some a) m c]).run P w = .ok v' w' ∧ w'.ownsRow base e size v' (n + m) (xs ++ news) ∧ w.grownBy w' v.ownBlock ∧
      ((v'.ownBlock = v.ownBlock ∧ v.ownBlock ≠ none) ∨ (v'.ownBlock = some w.heap.size ∧ Below w.heap.size w w')) := by
  obtain ⟨v', w', hr, h2, h3, h4, h5⟩ := run_append_own_at (P := P) w base t ty e i z size bytes ht hi hz hsize hby hzs hsz v n xs hown a m c news hl hnews h1 h63 hbytes hbase
  refine ⟨v', w', hr, h2, h3, ?_⟩
  subst hsize
  subst hby
  rcases hown.2 with ⟨rfl, rfl⟩ | ⟨g, cap, cur, rfl, hbg, hg, hnc, hcm, hcs, htake⟩
  · right
    have hr2 := run_append_nil (P := P) w t ty e i z ht hi hz a m c news hl hnews (by omega) (by simp only [maxLen] at h63; omega) (by have hb := hbytes; simp only [Nat.zero_add] at hb; omega)
    rw [hr2] at hr
    injection hr with hv hw
    subst hv hw
    exact ⟨rfl, (Below.refl _ _).drew.alloc (Nat.le_refl _) _⟩
  · by_cases hroom : n + m ≤ cap
    · left
      have hfit : n * i.size + news.length ≤ cur.size := by rw [hl, hcs, ← Nat.add_mul]; exact Nat.mul_le_mul_right _ hroom
      have hr2 := run_append_room (P := P) w t ty e i ht hi g n cap cur hg a m c news hl hnews h1 hroom hfit
      rw [hr2] at hr
      injection hr with hv hw
      subst hv
      exact ⟨rfl, by simp [Value.ownBlock]⟩
    · right
      have holds : ∀ j u, xs[j]? = some u → w.cell? ((⟨g, 0, none⟩ : Addr).add j) = some u := hown.cells (g := g) rfl
      have hr2 := run_append_grow (P := P) w t ty e i z ht hi hz ⟨g, 0, none⟩ n cap xs hown.1 holds a m c news hl hnews (by omega) (by simp only [maxLen] at h63; omega) (growslice_fits (by omega) hbytes)
      rw [hr2] at hr
      injection hr with hv hw
      subst hv hw
      exact ⟨rfl, (Below.refl _ _).drew.alloc (Nat.le_refl _) _⟩

end Go.Proofs.Ytbcjcekoonebiaa.Tl
