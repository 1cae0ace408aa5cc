/- The tree logic, part F: the operations that make or write memory. Conditions: none. -/
import Derived.Test.YtbcjcekoonebiaaTlE
import Derived.Laws.MakeOwn
set_option linter.unusedVariables false
set_option linter.unusedSimpArgs false
namespace Go.Proofs.Ytbcjcekoonebiaa.Tl
open Go Go.RowKit

def listV : List Value → Option (List AV)
  | [] => some []
  | v :: r => match ofVal1 v, listV r with
    | some x, some l => some (x :: l)
    | _, _ => none
theorem listV_rd {C : Cx} : ∀ {vs : List Value} {l : List AV}, listV vs = some l → RdL C l vs ∧ ∀ u ∈ vs, u.oneCell' = true
  | [], l, h => by simp [listV] at h; subst h; simp [RdL]
  | v :: r, l, h => by
    unfold listV at h
    split at h
    · rename_i x l' h1 h2
      injection h with h
      subst h
      obtain ⟨k1, k2⟩ := listV_rd h2
      refine ⟨by simp only [RdL]; exact ⟨(Rd.ofVal1 h1).1, k1⟩, fun u hu => ?_⟩
      rcases List.mem_cons.1 hu with rfl | hu
      · exact (Rd.ofVal1 (C := C) h1).2
      · exact k2 u hu
    · cases h

/-- A type's zero cells. -/
def zr (P : Program) (T : TypeId) : Option (List AV) :=
  match P.info? T with
  | some i => match i.zero with
    | some z => listV z.cells.toList
    | none => none
  | none => none
theorem zr_spec {P : Program} {T : TypeId} {l : List AV} (h : zr P T = some l) : ∃ i z, P.info? T = some i ∧ i.zero = some z ∧ listV z.cells.toList = some l ∧ ∀ w, (zeroValue T).run P w = .ok z w := by
  unfold zr at h
  split at h
  · rename_i i hi
    split at h
    · rename_i z hz
      exact ⟨i, z, hi, hz, h, fun w => by simp [zeroValue, typeInfo, hi, hz]⟩
    · cases h
  · cases h

/-- A struct type's fields: where they begin, how long they are. -/
def plcs (P : Program) (T : TypeId) : Option (List (Nat × Nat)) :=
  match P.underlying T with
  | some (.struct fields) => fields.toList.mapM (fun f => (P.info? f.type).map fun i => (f.offset, i.size))
  | _ => none

def spl (cells : List AV) (off : Nat) (l : List AV) : List AV := cells.take off ++ (l ++ cells.drop (off + l.length))

def fillA (places : List (Nat × Nat)) (ρ : Operand → Option AV) : List AV → List (Nat × Operand) → Option (List AV)
  | cells, [] => some cells
  | cells, (i, x) :: r => match places[i]?, ρ x with
    | some (off, n), some y => match cellsA y with
      | some l => if l.length = n ∧ off + n ≤ cells.length then fillA places ρ (spl cells off l) r else none
      | none => none
    | _, _ => none

def splV (cells : List Value) (off : Nat) (l : List Value) : List Value := cells.take off ++ (l ++ cells.drop (off + l.length))

theorem foldl_spl : ∀ (l : List Value) (off k : Nat) (cs : Array Value), off + k + l.length ≤ cs.size →
    ((l.zipIdx k).foldl (fun (cs : Array Value) (x : Value × Nat) => cs.setIfInBounds (off + x.2) x.1) cs).toList = splV cs.toList (off + k) l
  | [], off, k, cs, _ => by simp [splV]
  | v :: l, off, k, cs, h => by
    simp only [List.zipIdx_cons, List.foldl_cons]
    rw [foldl_spl l off (k + 1) _ (by simp at h ⊢; omega)]
    simp only [List.length_cons] at h
    have e := list_seg_step cs.toList (off + k) v l (by simp; omega)
    simp only [splV, Array.toList_setIfInBounds, List.length_cons]
    simpa [Nat.add_assoc, List.append_assoc] using e

theorem RdL.spl {C : Cx} {cells l : List AV} {vs us : List Value} (h : RdL C cells vs) (k : RdL C l us) (off : Nat) : RdL C (Tl.spl cells off l) (splV vs off us) := by
  unfold Tl.spl splV
  have h1 := h.extract 0 off
  have h2 := h.extract (off + l.length) cells.length
  rw [List.take_of_length_le (by simp), List.take_of_length_le (by have := h.length; simp; omega)] at h2
  rw [← k.length]
  simp only [List.drop_zero] at h1
  exact h1.append (k.append h2)
theorem mem_splV {vs us : List Value} {off : Nat} {u : Value} (h : u ∈ splV vs off us) : u ∈ vs ∨ u ∈ us := by
  unfold splV at h
  rcases List.mem_append.1 h with h | h
  · exact .inl (List.mem_of_mem_take h)
  · rcases List.mem_append.1 h with h | h
    · exact .inr h
    · exact .inl (List.mem_of_mem_drop h)

theorem fillA_rd {C : Cx} {a : Act} {places : List (Nat × Nat)} {ρ : Operand → Option AV} : ∀ {parts : List (Nat × Operand)} {cells l : List AV} {cs : Array Value},
    fillA places ρ cells parts = some l → (∀ p ∈ parts, ∀ y, ρ p.2 = some y → Rd C y (a.eval p.2)) → RdL C cells cs.toList → (∀ u ∈ cs.toList, u.oneCell' = true) →
    ∃ cs', Instr.fill (places.toArray[·]?) cs (parts.map fun p => (p.1, a.eval p.2)) = some cs' ∧ RdL C l cs'.toList ∧ ∀ u ∈ cs'.toList, u.oneCell' = true
  | [], cells, l, cs, h, _, hc, h1 => by
    simp only [fillA] at h
    injection h with h
    subst h
    exact ⟨cs, rfl, hc, h1⟩
  | (i, x) :: r, cells, l, cs, h, hρ, hc, h1 => by
    unfold fillA at h
    split at h
    · rename_i off n y hp hy
      split at h
      · rename_i lx hx
        split at h
        · rename_i hb
          have hr := hρ (i, x) (by simp) y hy
          obtain ⟨k1, k2⟩ := cellsA_rd hx hr
          have hl1 := k1.length
          have hl2 := hc.length
          simp only [Array.length_toList] at hl1 hl2
          have hz : ((a.eval x).cells.zipIdx.foldl (fun (cs : Array Value) (x : Value × Nat) => cs.setIfInBounds (off + x.2) x.1) cs).toList = splV cs.toList off (a.eval x).cells.toList := by
            have := foldl_spl (a.eval x).cells.toList off 0 cs (by simp; omega)
            simp only [Nat.add_zero] at this
            rw [← this, ← Array.foldl_toList]
            congr 1
            simp
          obtain ⟨cs', q1, q2, q3⟩ := fillA_rd (cs := (a.eval x).cells.zipIdx.foldl (fun (cs : Array Value) (x : Value × Nat) => cs.setIfInBounds (off + x.2) x.1) cs) h (fun p hp => hρ p (by simp [hp])) (by rw [hz]; exact hc.spl k1 off)
            (fun u hu => by rw [hz] at hu; rcases mem_splV hu with hu | hu; · exact h1 u hu
                            · exact k2 u hu)
          refine ⟨cs', ?_, q2, q3⟩
          have hpl : places.toArray[i]? = some (off, n) := by simpa using hp
          simp only [List.map_cons, Instr.fill, hpl]
          rw [if_neg (by simp only [ne_eq, Bool.or_eq_true, decide_eq_true_eq, not_or, Decidable.not_not]; omega)]
          exact q1
        · cases h
      · cases h
    · cases h

/-- A struct's value out of its parts. -/
theorem OpS.build {P : Program} {o : Oper} {ρ : Operand → Option AV} {T : TypeId} {parts : Array (Nat × Operand)} (ho : o.op = .build T parts) {z l : List AV} {pl : List (Nat × Nat)}
    (hz : zr P T = some z) (hp : plcs P T = some pl) (hf : fillA pl ρ z parts.toList = some l) : OpS P o ρ [] [] (.agg l) := by
  refine OpS.val fun C a hI hρ hrd => ?_
  obtain ⟨i, zv, e1, e2, e3, _⟩ := zr_spec hz
  obtain ⟨k1, k2⟩ := listV_rd (C := C) e3
  obtain ⟨cs', q1, q2, q3⟩ := fillA_rd (C := C) (a := a) hf (fun p hp y hy => hρ p.2 (by
    rw [ho]
    simp only [Op.operands, List.mem_toArray, List.mem_map]
    exact ⟨p, hp, rfl⟩) y hy) k1 k2
  unfold plcs at hp
  split at hp
  · rename_i fields hu
    have hb : P.built T (parts.map fun x => (x.1, a.eval x.2)).toList = some cs' := by
      unfold Program.built
      simp only [e1, hu, e2, hp]
      simpa using q1
    refine ⟨.agg cs', ?_, by simp only [Rd]; exact ⟨cs', rfl, q2, q3⟩⟩
    unfold execOp
    simp only [ho, Sem.run_bind]
    have := run_build (P := P) C.w T (parts.map fun x => (x.1, a.eval x.2)) cs' hb
    simp only [this, Result.andThen_ok, Sem.run_pure]
  · cases hp

/-- A new variable. -/
theorem OpS.newVar {P : Program} {o : Oper} {ρ : Operand → Option AV} {T : TypeId} (id : Nat) (cells : List AV)
    (hx : ∀ (C : Cx) (a : Act), (∀ x ∈ o.op.operands, ∀ y, ρ x = some y → Rd C y (a.eval x)) → ∃ cs : Array Value, RdL C cells cs.toList ∧ (∀ u ∈ cs.toList, u.oneCell' = true) ∧ (execOp a.eval o).run P C.w = .ok (.value (.pointer (some ⟨C.w.heap.size, 0, none⟩))) (C.w.alloc (.cells cs T))) :
    OpS P o ρ [] [(id, .box T cells)] (.ptr id 0) := by
  intro C a next Q hI hρ hrd hup hk
  obtain ⟨cs, h1, h2, h3⟩ := hx C a hρ
  have hH : C.H id = none := by
    have := hup (id, .box T cells) (by simp)
    simpa using this
  unfold Oper.wp
  rw [h3, Oper.upon_value]
  have hn := hI.new id hH cs T (.pointer (some ⟨C.w.heap.size, 0, none⟩)) (.box T cells) rfl (fun C' e hle hb hge => ⟨C.w.heap.size, cs, rfl, by subst e; exact hge, hb, h1.le hle, h2⟩)
  refine hk _ (.pointer (some ⟨C.w.heap.size, 0, none⟩)) hn.1 hn.2 rfl rfl rfl (fun id' u h => ?_) (fun p hp => ?_) ?_
  · by_cases e : id' = id
    · subst e; exact ⟨_, upd_same _ _ _⟩
    · exact ⟨u, by simpa only [upd_ne _ _ e] using h⟩
  · simp only [List.mem_singleton] at hp
    subst hp
    exact ⟨_, upd_same _ _ _⟩
  · simp only [Rd]
    exact ⟨C.w.heap.size, upd_same _ _ _, rfl⟩

theorem OpS.alloc {P : Program} {o : Oper} {ρ : Operand → Option AV} {T : TypeId} (ho : o.op = .alloc T) {z : List AV} (hz : zr P T = some z) (id : Nat) : OpS P o ρ [] [(id, .box T z)] (.ptr id 0) := by
  refine OpS.newVar id z fun C a _ => ?_
  obtain ⟨i, zv, e1, e2, e3, e4⟩ := zr_spec hz
  obtain ⟨k1, k2⟩ := listV_rd (C := C) e3
  refine ⟨zv.cells, k1, k2, ?_⟩
  unfold execOp
  simp only [ho, Instr.alloc, Sem.run_bind, e4, Result.andThen_ok, newVar, newRow]
  rfl

theorem OpS.box {P : Program} {o : Oper} {ρ : Operand → Option AV} {T : TypeId} {x : Operand} (ho : o.op = .box T x) {y : AV} (hy : ρ x = some y) {l : List AV} (hl : cellsA y = some l) (id : Nat) : OpS P o ρ [] [(id, .box T l)] (.ptr id 0) := by
  refine OpS.newVar id l fun C a hρ => ?_
  have hr := hρ x (by simp [ho, Op.operands]) y hy
  obtain ⟨k1, k2⟩ := cellsA_rd hl hr
  refine ⟨(a.eval x).cells, k1, k2, ?_⟩
  unfold execOp
  simp only [ho, Instr.box, newVar, newRow]
  rfl

/-- A store into a variable. -/
theorem OpS.store {P : Program} {o : Oper} {ρ : Operand → Option AV} {T : TypeId} {x y : Operand} (ho : o.op = .store T x y) {id off : Nat} (hx : ρ x = some (.ptr id off)) {v : AV} (hy : ρ y = some v) {l : List AV} (hl : cellsA v = some l)
    {g : Bool} (hlay : lay P T = some (g, l.length)) {t : TypeId} {cells : List AV} (hb : off + l.length ≤ cells.length) : OpS P o ρ [(id, .box t cells)] [(id, .box t (spl cells off l))] .undef := by
  intro C a next Q hI hρ hrd hup hk
  have q := hρ x (by simp [ho, Op.operands]) _ hx
  have q' := hρ y (by simp [ho, Op.operands]) _ hy
  simp only [Rd] at q
  obtain ⟨b, q0, q1⟩ := q
  obtain ⟨k1, _⟩ := hrd (id, .box t cells) (by simp)
  simp only at k1
  obtain ⟨ob, k3, k4⟩ := hI.obj id _ q0
  rw [k1] at k3
  injection k3 with k3
  subst k3
  obtain ⟨b', cs, k5, k6, k7, k8, k9⟩ := k4
  injection k5 with k5
  injection k5 with k5
  injection k5 with k5 _ _
  subst k5
  obtain ⟨m1, m2⟩ := cellsA_rd hl q'
  obtain ⟨inf, hi, hs, hag, hsz⟩ := lay_spec hlay
  have hlc := k8.length
  have hll := m1.length
  simp only [Array.length_toList] at hlc hll
  have hst := run_storeCells_at P b off t (a.eval y).cells.toList 0 cs C.w k7 (by simp; omega) m2
  simp only [Nat.add_zero] at hst
  have hrun : (execOp a.eval o).run P C.w = .ok .skip (C.w.setRow b (splV cs.toList off (a.eval y).cells.toList).toArray) := by
    unfold execOp
    simp only [ho, Instr.storeAt, Instr.sureAddr, q1, Sem.run_bind, Sem.run_pure, Result.andThen_ok, storeVar, hsz]
    rw [if_neg (by simp; omega)]
    rw [hst]
    simp [splV]
  unfold Oper.wp
  rw [hrun, Oper.upon_skip]
  have hn := hI.wrote q0 k1 (spl cells off l) (splV cs.toList off (a.eval y).cells.toList).toArray (C.w.setRow b (splV cs.toList off (a.eval y).cells.toList).toArray)
    (setRow_heap C.w b cs _ t _ k7) (fun k hk' => setRow_other C.w b k _ hk') (by simp) rfl rfl rfl (by simpa using k8.spl m1 off) (fun u hu => by
      rcases mem_splV (by simpa using hu) with hu | hu
      · exact k9 u hu
      · exact m2 u hu)
  exact hk _ undef hn.1 hn.2 rfl rfl rfl (fun id' u h => ⟨u, h⟩) (fun p hp => by simp only [List.mem_singleton] at hp; subst hp; exact ⟨_, q0⟩) (by simp [Rd])

end Go.Proofs.Ytbcjcekoonebiaa.Tl
