/- The tree logic, part G: rows of the call's own; calls; contracts. Conditions: none. -/
import Derived.Test.YtbcjcekoonebiaaTlF
set_option linter.unusedVariables false
set_option linter.unusedSimpArgs false
namespace Go.Proofs.Ytbcjcekoonebiaa.Tl
open Go Go.RowKit

/-- A row of the call's own, as a value. -/
theorem own_rd {C : Cx} (hI : Inv C) {id : Nat} {e : TypeId} {sz n : Nat} {v : Value} (hG : C.G id = some v) (hH : C.H id = some (.row e sz n)) {rows : List (List AV)} (hn : rows.length = n) (hl : ∀ r ∈ rows, r.length = sz)
    {ys : List Value} (ho : C.w.ownsRow C.w0.heap.size e sz v n ys) (hr : RdL C rows.flatten ys) (h1 : ∀ u ∈ ys, u.oneCell' = true) : Rd C (.sl (.own id) sz rows) v := by
  subst hn
  simp only [Rd]
  have htag : TagP C id rows.length v := ⟨e, sz, rows.length, hH, Nat.le_refl _, fun _ => hG⟩
  rcases ho.2 with ⟨rfl, h0⟩ | ⟨g, cap, cur, rfl, hge, hg, hc, hm, hs, ht⟩
  · refine ⟨none, 0, by rw [h0], by omega, by omega, .inl (List.eq_nil_of_length_eq_zero h0), htag⟩
  · refine ⟨some ⟨g, 0, none⟩, cap, rfl, hc, by simp only [maxLen] at hm; omega, ?_, htag⟩
    right
    refine ⟨g, 0, rfl, RdR.unflat hl (RdC.mk hr h1 (fun j u hj => ?_) (fun j hj => ⟨?_, fun id' v' q1 q2 => ?_⟩))⟩
    · have := ho.cells (g := g) rfl j u hj
      rw [add_plain'] at this
      exact this
    · exact hI.okG id _ g hG rfl _
    · have : id' = id := hI.apart id' id v' _ g q1 hG q2 rfl
      subst this
      exact ⟨e, sz, _, hH, by rw [ho.1] at hj; omega⟩

theorem own_flat {C : Cx} {id : Nat} {e : TypeId} {sz n : Nat} {v : Value} {rows : List (List AV)} (hr : Rd C (.sl (.own id) sz rows) v) (hH : C.H id = some (.row e sz n)) (hn : rows.length = n)
    {xs : List Value} (ho : C.w.ownsRow C.w0.heap.size e sz v n xs) : C.G id = some v ∧ RdL C rows.flatten xs ∧ (∀ u ∈ xs, u.oneCell' = true) ∧ ∀ r ∈ rows, r.length = sz := by
  simp only [Rd] at hr
  obtain ⟨A, c, e0, _, _, h3, e1, sz1, m, t1, t2, t3⟩ := hr
  rw [hH] at t1
  injection t1 with t1
  injection t1 with _ _ t1
  subst t1
  refine ⟨t3 hn, ?_⟩
  rcases h3 with rfl | ⟨b, off, rfl, h3⟩
  · have : xs = [] := List.eq_nil_of_length_eq_zero (by rw [ho.1, ← hn]; simp)
    subst this
    simp [RdL]
  · obtain ⟨k1, k2⟩ := h3.flat
    obtain ⟨vs, q1, q2, q3⟩ := k1.vals
    rcases ho.2 with ⟨e2, h0⟩ | ⟨g, cap, cur, e2, hge, hg, hc, hm, hs, ht⟩
    · rw [e0] at e2
      injection e2 with e2
      cases e2
    · rw [e0] at e2
      injection e2 with e2 _ _
      injection e2 with e2
      injection e2 with e2 e3 _
      subst e2 e3
      have hv : vs = xs := by
        apply List.ext_getElem?
        intro j
        have hl : vs.length = xs.length := by rw [← q1.length, k2, hn, ho.1]
        by_cases hj : j < xs.length
        · have a1 := ho.cells (g := b) (by rw [e0]; rfl) j _ (List.getElem?_eq_getElem hj)
          have a2 := q3 j _ (List.getElem?_eq_getElem (by omega))
          rw [add_plain'] at a1
          rw [a1] at a2
          rw [List.getElem?_eq_getElem hj, List.getElem?_eq_getElem (by omega)]
          exact a2.symm
        · rw [List.getElem?_eq_none (by omega), List.getElem?_eq_none (by omega)]
      subst hv
      refine ⟨q1, q2, fun r hr => ?_⟩
      obtain ⟨i, hi⟩ := List.mem_iff_getElem?.1 hr
      exact (h3.get hi).1

/-- The rows of a slice that is read, as values. -/
theorem sl_vals {C : Cx} {tag : Tag} {sz : Nat} {rows : List (List AV)} {v : Value} (hr : Rd C (.sl tag sz rows) v) (hne : rows ≠ []) :
    ∃ b off c vs, v = .slice (some ⟨b, off, none⟩) rows.length c ∧ RdL C rows.flatten vs ∧ (∀ u ∈ vs, u.oneCell' = true) ∧ vs.length = rows.length * sz ∧ (∀ j u, vs[j]? = some u → C.w.cell? ((⟨b, off, none⟩ : Addr).add j) = some u) ∧ ∀ r ∈ rows, r.length = sz := by
  simp only [Rd] at hr
  obtain ⟨A, c, e0, _, _, h3, _⟩ := hr
  rcases h3 with h3 | ⟨b, off, rfl, h3⟩
  · exact absurd h3 hne
  · obtain ⟨k1, k2⟩ := h3.flat
    obtain ⟨vs, q1, q2, q3⟩ := k1.vals
    refine ⟨b, off, c, vs, e0, q1, q2, by rw [← q1.length, k2], fun j u hj => by rw [add_plain']; exact q3 j u hj, fun r hr => ?_⟩
    obtain ⟨i, hi⟩ := List.mem_iff_getElem?.1 hr
    exact (h3.get hi).1

def byt (P : Program) (e : TypeId) : Option Nat := (P.info? e).map (·.bytes)

theorem operands_append (t1 t2 : TypeId) (s x : Operand) {op : Op} (ho : op = .call { callee := .builtin .append, args := #[s, x], argTypes := #[t1, t2] }) : s ∈ op.operands ∧ x ∈ op.operands := by
  subst ho
  simp [Op.operands, Call.operands]

/-- append of nothing. -/
theorem OpS.append0 {P : Program} {o : Oper} {ρ : Operand → Option AV} {t : TypeId} {s x : Operand} (ho : o.op = .call { callee := .builtin .append, args := #[s, x], argTypes := #[t, t] })
    {e : TypeId} {sz : Nat} (he : elm P t = some (e, sz)) {tag tagx : Tag} {szs szx : Nat} {rows : List (List AV)} (hs : ρ s = some (.sl tag szs rows)) (hx : ρ x = some (.sl tagx szx [])) : OpS P o ρ [] [] (.sl tag szs rows) := by
  refine OpS.val fun C a hI hρ hrd => ?_
  obtain ⟨m1, m2⟩ := operands_append t t s x ho
  have q := hρ s m1 _ hs
  have q' := hρ x m2 _ hx
  refine ⟨a.eval s, ?_, q⟩
  simp only [Rd] at q q'
  obtain ⟨A, c, q0, hc, _⟩ := q
  obtain ⟨A', c', q0', _⟩ := q'
  obtain ⟨e1, i, e2, e3⟩ := elm_spec he
  have hlc : (rows.length ≤ c) = True := by simpa using hc
  have key : (Builtin.append_ #[t, t] o.type #[a.eval s, a.eval x]).run P C.w = .ok (a.eval s) C.w := by
    rw [q0, q0']
    cases A' with
    | none => cases A <;> simp [Builtin.append_, run_underlying e1, sizeOf, typeInfo, e2, Builtin.lenOf, hc, Builtin.firstCells, storeCells]
    | some a' => cases A <;> simp [Builtin.append_, run_underlying e1, sizeOf, typeInfo, e2, Builtin.lenOf, hc, Builtin.firstCells, loadCells, loadCellsFrom, storeCells]
  unfold execOp
  simp only [ho, resolve, invoke, builtin, Sem.run_bind, Sem.run_pure, Result.andThen_ok, List.map_toArray, List.map_cons, List.map_nil, key]

/-- append to a row of the call's own. -/
theorem OpS.append {P : Program} {o : Oper} {ρ : Operand → Option AV} {t : TypeId} {s x : Operand} (ho : o.op = .call { callee := .builtin .append, args := #[s, x], argTypes := #[t, t] })
    {e : TypeId} {sz : Nat} (he : elm P t = some (e, sz)) (hsz : 0 < sz) {z : List AV} (hz : zr P e = some z) (hzl : z.length = sz) {by_ : Nat} (hby : byt P e = some by_) {id : Nat} {tagx : Tag} {rows news : List (List AV)}
    (hs : ρ s = some (.sl (.own id) sz rows)) (hx : ρ x = some (.sl tagx sz news)) (hne : news ≠ []) (hb : (rows.length + news.length) * by_ ≤ 140737488355328) (hb2 : rows.length + news.length ≤ 9223372036854775807) :
    OpS P o ρ [(id, .row e sz rows.length)] [(id, .row e sz (rows.length + news.length))] (.sl (.own id) sz (rows ++ news)) := by
  intro C a next Q hI hρ hrd hup hk
  obtain ⟨m1, m2⟩ := operands_append t t s x ho
  have q := hρ s m1 _ hs
  have q' := hρ x m2 _ hx
  obtain ⟨e1, i, e2, e3⟩ := elm_spec he
  obtain ⟨i', zv, f1, f2, f3, _⟩ := zr_spec hz
  rw [e2] at f1
  injection f1 with f1
  subst f1
  obtain ⟨k1, kG⟩ := hrd (id, .row e sz rows.length) (by simp)
  simp only at k1 kG
  obtain ⟨gv, kG⟩ := kG
  obtain ⟨ob, k3, k4⟩ := hI.obj id _ kG
  rw [k1] at k3
  injection k3 with k3
  subst k3
  obtain ⟨_, xs, hown⟩ := k4
  have hGs : C.G id = some (a.eval s) := by
    have q2 := q
    simp only [Rd] at q2
    obtain ⟨A, c, _, _, _, _, e4, sz4, m, t1, t2, t3⟩ := q2
    rw [k1] at t1
    injection t1 with t1
    injection t1 with _ _ t1
    exact t3 t1
  rw [kG] at hGs
  injection hGs with hGs
  subst hGs
  obtain ⟨_, r1, r2, r3⟩ := own_flat q k1 rfl hown
  obtain ⟨b, off, c, vs, p0, p1, p2, p3, p4, p5⟩ := sl_vals q' hne
  have hm : 0 < news.length := List.length_pos_iff.2 hne
  have hzs : zv.cells.size = sz := by
    have := (listV_rd (C := C) f3).1.length
    simp at this
    omega
  have hbi : i.bytes = by_ := by simpa [byt, e2] using hby
  obtain ⟨v', w', hr, h2, h3, h4⟩ := run_app (P := P) C.w C.w0.heap.size t o.type e i zv sz by_ e1 e2 f2 e3 hbi hzs hsz (a.eval s) rows.length xs hown ⟨b, off, none⟩ news.length c vs p3 p4 p2 hm (by simp only [maxLen]; omega) hb hI.below.size
  have hn := hI.appended kG k1 hm w' xs vs hown h2 h3 h4
  have hrun : (execOp a.eval o).run P C.w = .ok (.value v') w' := by
    unfold execOp
    simp only [ho, resolve, invoke, builtin, Sem.run_bind, Sem.run_pure, Result.andThen_ok, List.map_toArray, List.map_cons, List.map_nil, p0, hr]
  unfold Oper.wp
  rw [hrun, Oper.upon_value]
  refine hk _ v' hn.1 hn.2 rfl rfl rfl (fun id' u h => ?_) (fun p hp => ?_) ?_
  · by_cases e' : id' = id
    · subst e'; exact ⟨_, upd_same _ _ _⟩
    · exact ⟨u, by simpa only [upd_ne _ _ e'] using h⟩
  · simp only [List.mem_singleton] at hp
    subst hp
    exact ⟨_, upd_same _ _ _⟩
  · refine own_rd hn.1 (e := e) (n := rows.length + news.length) (ys := xs ++ vs) (upd_same _ _ _) (upd_same _ _ _) (by simp) (fun r hr => ?_) h2 ?_ (fun u hu => ?_)
    · rcases List.mem_append.1 hr with h | h
      · exact r3 r h
      · exact p5 r h
    · rw [List.flatten_append]
      exact (r1.le hn.2).append (p1.le hn.2)
    · rcases List.mem_append.1 hu with h | h
      · exact r2 u h
      · exact p2 u h

theorem flat_len (sz : Nat) : ∀ (rs : List (List AV)), (∀ r ∈ rs, r.length = sz) → rs.flatten.length = rs.length * sz
  | [], _ => by simp
  | r :: rs, h => by
    have := flat_len sz rs (fun r hr => h r (by simp [hr]))
    simp only [List.flatten_cons, List.length_append, List.length_cons, Nat.add_mul, this, h r (by simp)]
    omega

/-- A new row: the value, once the block is made. -/
theorem OpS.newRow {P : Program} {o : Oper} {ρ : Operand → Option AV} {e : TypeId} {sz : Nat} (hsz : 0 < sz) (id : Nat) (rows : List (List AV))
    (hx : ∀ (C : Cx) (a : Act), Inv C → (∀ x ∈ o.op.operands, ∀ y, ρ x = some y → Rd C y (a.eval x)) → ∃ (w' : World) (cs : Array Value) (ys : List Value) (cap : Nat), Below C.w.heap.size C.w w' ∧ w'.heap.size = C.w.heap.size ∧
      (execOp a.eval o).run P C.w = .ok (.value (.slice (some ⟨C.w.heap.size, 0, none⟩) rows.length cap)) (w'.alloc (.cells cs e)) ∧ RdL C rows.flatten ys ∧ (∀ u ∈ ys, u.oneCell' = true) ∧ (∀ r ∈ rows, r.length = sz) ∧ rows.length ≤ cap ∧ cap ≤ maxLen ∧ cs.size = cap * sz ∧ cs.toList.take (rows.length * sz) = ys) :
    OpS P o ρ [] [(id, .row e sz rows.length)] (.sl (.own id) sz rows) := by
  intro C a next Q hI hρ hrd hup hk
  obtain ⟨w', cs, ys, cap, hb, hsw, hr, h1, h2, h3, h4, h5, h6, h7⟩ := hx C a hI hρ
  have hH : C.H id = none := by
    have := hup (id, .row e sz rows.length) (by simp)
    simpa using this
  unfold Oper.wp
  rw [hr, Oper.upon_value]
  obtain ⟨hI1, hle1⟩ := hI.moved hb
  have hlen : ys.length = rows.length * sz := by
    rw [← h1.length]
    exact flat_len sz rows h3
  have hown : (w'.alloc (.cells cs e)).ownsRow C.w0.heap.size e sz (.slice (some ⟨C.w.heap.size, 0, none⟩) rows.length cap) rows.length ys :=
    ⟨hlen, .inr ⟨C.w.heap.size, cap, cs, rfl, hI.below.size, by rw [← hsw]; exact heap_alloc_new w' _, h4, h5, h6, h7⟩⟩
  have hn := hI1.new id hH cs e (.slice (some ⟨C.w.heap.size, 0, none⟩) rows.length cap) (.row e sz rows.length) (by rw [← hsw]; rfl) (fun C' e' hle hbk hge => by subst e'; exact ⟨hsz, ys, hown⟩)
  refine hk _ (.slice (some ⟨C.w.heap.size, 0, none⟩) rows.length cap) hn.1 (hle1.trans hn.2) rfl rfl rfl (fun id' u h => ?_) (fun p hp => ?_) ?_
  · by_cases e' : id' = id
    · subst e'; exact ⟨_, upd_same _ _ _⟩
    · exact ⟨u, by simpa only [upd_ne _ _ e'] using h⟩
  · simp only [List.mem_singleton] at hp
    subst hp
    exact ⟨_, upd_same _ _ _⟩
  · exact own_rd hn.1 (e := e) (n := rows.length) (ys := ys) (upd_same _ _ _) (upd_same _ _ _) rfl h3 hown ((h1.le hle1).le hn.2) h2
/-- append to nil: a new row. -/
theorem OpS.appendNil {P : Program} {o : Oper} {ρ : Operand → Option AV} {t : TypeId} {s x : Operand} (ho : o.op = .call { callee := .builtin .append, args := #[s, x], argTypes := #[t, t] })
    {e : TypeId} {sz : Nat} (he : elm P t = some (e, sz)) (hsz : 0 < sz) {z : List AV} (hz : zr P e = some z) (hzl : z.length = sz) {by_ : Nat} (hby : byt P e = some by_) {szs : Nat} {tagx : Tag} {news : List (List AV)}
    (hs : ρ s = some (.sl .nil szs [])) (hx : ρ x = some (.sl tagx sz news)) (hne : news ≠ []) (hb : news.length * by_ ≤ 140737488355328) (hb2 : news.length ≤ 9223372036854775807) (id : Nat) :
    OpS P o ρ [] [(id, .row e sz news.length)] (.sl (.own id) sz news) := by
  refine OpS.newRow hsz id news fun C a hI hρ => ?_
  obtain ⟨m1, m2⟩ := operands_append t t s x ho
  have q := hρ s m1 _ hs
  have q' := hρ x m2 _ hx
  simp only [Rd] at q
  obtain ⟨A, c, _, _, _, _, q0⟩ := q
  obtain ⟨e1, i, e2, e3⟩ := elm_spec he
  obtain ⟨i', zv, f1, f2, f3, _⟩ := zr_spec hz
  rw [e2] at f1
  injection f1 with f1
  subst f1
  obtain ⟨b, off, c', vs, p0, p1, p2, p3, p4, p5⟩ := sl_vals q' hne
  have hm : 0 < news.length := List.length_pos_iff.2 hne
  have hzs : zv.cells.size = sz := by
    have := (listV_rd (C := C) f3).1.length
    simp at this
    omega
  have hbi : i.bytes = by_ := by simpa [byt, e2] using hby
  have hr := run_append_nil (P := P) C.w t o.type e i zv e1 e2 f2 ⟨b, off, none⟩ news.length c' vs (by rw [e3]; exact p3) p4 (by omega) (by omega) (by rw [hbi]; omega)
  refine ⟨C.w.drew, vs.toArray ++ Builtin.zeroCells zv.cells (grownCap C.w news.length 0 e - news.length), vs, grownCap C.w news.length 0 e, (Below.refl _ _).drew, rfl, ?_, p1, p2, p5, grownCap_ge C.w news.length 0 e, grownCap_le_maxLen C.w news.length 0 e (by simp only [maxLen]; omega), ?_, ?_⟩
  · unfold execOp
    simp only [ho, resolve, invoke, builtin, Sem.run_bind, Sem.run_pure, Result.andThen_ok, List.map_toArray, List.map_cons, List.map_nil, p0, q0, hr]
  · have := grownCap_ge C.w news.length 0 e
    simp only [Array.size_append, List.size_toArray, size_zeroCells, hzs, p3, ← Nat.add_mul]
    congr 1
    omega
  · rw [Array.toList_append, ← p3]
    exact List.take_left

/-- The parts of a literal, in order. -/
def seqA (ρ : Operand → Option AV) (sz : Nat) : Nat → List (Nat × Operand) → Option (List (List AV))
  | _, [] => some []
  | k, (i, x) :: r => if i = k then (match ρ x with
      | some y => match cellsA y with
        | some l => if l.length = sz then (seqA ρ sz (k + 1) r).map (l :: ·) else none
        | none => none
      | none => none) else none

theorem splV_tail (A Z l : List Value) (k : Nat) (hA : A.length = k) (hl : l.length ≤ Z.length) : splV (A ++ Z) k l = (A ++ l) ++ Z.drop l.length := by
  subst hA
  unfold splV
  rw [List.take_left, List.drop_append, List.drop_eq_nil_of_le (by omega), show A.length + l.length - A.length = l.length by omega]
  simp

theorem seqA_fill {C : Cx} {a : Act} {ρ : Operand → Option AV} {sz : Nat} : ∀ {parts : List (Nat × Operand)} {k : Nat} {rows : List (List AV)} {cs : Array Value} {A : List Value},
    seqA ρ sz k parts = some rows → (∀ p ∈ parts, ∀ y, ρ p.2 = some y → Rd C y (a.eval p.2)) → A.length = k * sz → (∃ Z, cs.toList = A ++ Z ∧ Z.length = parts.length * sz) →
    ∃ cs' ys, Instr.fill (fun i => some (i * sz, sz)) cs (parts.map fun p => (p.1, a.eval p.2)) = some cs' ∧ cs'.toList = A ++ ys ∧ RdL C rows.flatten ys ∧ (∀ u ∈ ys, u.oneCell' = true) ∧ (∀ r ∈ rows, r.length = sz) ∧ rows.length = parts.length
  | [], k, rows, cs, A, h, _, hA, ⟨Z, hZ, hZl⟩ => by
    simp only [seqA] at h
    injection h with h
    subst h
    have : Z = [] := List.eq_nil_of_length_eq_zero (by simpa using hZl)
    subst this
    exact ⟨cs, [], rfl, hZ, by simp [RdL], by simp, by simp, rfl⟩
  | (i, x) :: r, k, rows, cs, A, h, hρ, hA, ⟨Z, hZ, hZl⟩ => by
    unfold seqA at h
    split at h
    · rename_i hik
      subst hik
      split at h
      · rename_i y hy
        split at h
        · rename_i l hl
          split at h
          · rename_i hls
            simp only [Option.map_eq_some_iff] at h
            obtain ⟨rows', h', rfl⟩ := h
            have hr := hρ (i, x) (by simp) y hy
            obtain ⟨k1, k2⟩ := cellsA_rd hl hr
            have hll := k1.length
            simp only [Array.length_toList] at hll
            have hcs : cs.size = A.length + Z.length := by rw [← Array.length_toList, hZ, List.length_append]
            simp only [List.length_cons, Nat.add_mul, Nat.one_mul] at hZl
            have hz : ((a.eval x).cells.zipIdx.foldl (fun (cs : Array Value) (x : Value × Nat) => cs.setIfInBounds (i * sz + x.2) x.1) cs).toList = (A ++ (a.eval x).cells.toList) ++ Z.drop sz := by
              have := foldl_spl (a.eval x).cells.toList (i * sz) 0 cs (by simp; omega)
              simp only [Nat.add_zero] at this
              rw [hZ, splV_tail A Z _ (i * sz) hA (by simp; omega)] at this
              rw [show Z.drop sz = Z.drop (a.eval x).cells.toList.length by simp; rw [← hll, hls], ← this, ← Array.foldl_toList]
              congr 1
              simp
            obtain ⟨cs', ys, q1, q2, q3, q4, q5, q6⟩ := seqA_fill (a := a) (cs := (a.eval x).cells.zipIdx.foldl (fun (cs : Array Value) (x : Value × Nat) => cs.setIfInBounds (i * sz + x.2) x.1) cs) (A := A ++ (a.eval x).cells.toList) h' (fun p hp => hρ p (by simp [hp]))
              (by simp [Nat.add_mul]; omega) ⟨Z.drop sz, hz, by simp; omega⟩
            refine ⟨cs', (a.eval x).cells.toList ++ ys, ?_, by rw [q2, List.append_assoc], ?_, fun u hu => ?_, fun r hr => ?_, by simp [q6]⟩
            · simp only [List.map_cons, Instr.fill]
              rw [if_neg (by simp only [ne_eq, Bool.or_eq_true, decide_eq_true_eq, not_or, Decidable.not_not]; omega)]
              exact q1
            · rw [List.flatten_cons]; exact k1.append q3
            · rcases List.mem_append.1 hu with hu | hu
              · exact k2 u hu
              · exact q4 u hu
            · rcases List.mem_cons.1 hr with rfl | hr
              · exact hls
              · exact q5 r hr
          · cases h
        · cases h
      · cases h
    · cases h

/-- A slice literal. -/
theorem OpS.lit {P : Program} {o : Oper} {ρ : Operand → Option AV} {T : TypeId} {len : Nat} {parts : Array (Nat × Operand)} (ho : o.op = .buildSlice T len parts) {e : TypeId} {sz : Nat} (he : elm P T = some (e, sz)) (hsz : 0 < sz)
    {z : List AV} (hz : zr P e = some z) {rows : List (List AV)} (hs : seqA ρ sz 0 parts.toList = some rows) (hl : rows.length = len) (hb : len * sz ≤ 16777216) (id : Nat) : OpS P o ρ [] [(id, .row e sz rows.length)] (.sl (.own id) sz rows) := by
  refine OpS.newRow hsz id rows fun C a hI hρ => ?_
  obtain ⟨e1, i, e2, e3⟩ := elm_spec he
  obtain ⟨i', zv, f1, f2, f3, f4⟩ := zr_spec hz
  have hsize : ∀ w, (sizeOf e).run P w = .ok sz w := fun w => by simp [sizeOf, typeInfo, e2, e3]
  have hmem : ∀ p ∈ parts.toList, ∀ y, ρ p.2 = some y → Rd C y (a.eval p.2) := fun p hp y hy => hρ p.2 (by
    rw [ho]
    simp only [Op.operands, List.mem_toArray, List.mem_map]
    exact ⟨p, hp, rfl⟩) y hy
  have main : ∀ cs0 : Array Value, cs0.size = len * sz → ∃ cs' ys, Instr.fill (fun i => some (i * sz, sz)) cs0 (parts.toList.map fun p => (p.1, a.eval p.2)) = some cs' ∧ cs'.toList = ys ∧ RdL C rows.flatten ys ∧ (∀ u ∈ ys, u.oneCell' = true) ∧ (∀ r ∈ rows, r.length = sz) ∧ cs'.size = len * sz := by
    intro cs0 hc0
    have hpl : rows.length = parts.toList.length := seq_len hs
    obtain ⟨cs', ys, q1, q2, q3, q4, q5, q6⟩ := seqA_fill (C := C) (a := a) (cs := cs0) (A := []) hs hmem (by simp) ⟨cs0.toList, by simp, by rw [Array.length_toList, hc0, ← hl, hpl]⟩
    refine ⟨cs', ys, q1, by simpa using q2, q3, q4, q5, ?_⟩
    have : ys.length = rows.length * sz := by
      rw [← q3.length]
      exact flat_len sz rows q5
    rw [← Array.length_toList, q2, List.nil_append, this, hl]
  refine ⟨C.w, ?_⟩
  have hlm : rows.length ≤ maxLen := by
    have : len ≤ len * sz := Nat.le_mul_of_pos_right _ hsz
    simp only [maxLen]; omega
  by_cases h0 : len * sz = 0
  · obtain ⟨cs', ys, q1, q2, q3, q4, q5, q6⟩ := main ((Array.range (len * sz)).map ((#[] : Array Value)[· % (#[] : Array Value).size]!)) (by simp)
    refine ⟨cs', ys, rows.length, Below.refl _ _, rfl, ?_, q3, q4, q5, Nat.le_refl _, hlm, by rw [q6, hl], ?_⟩
    · unfold execOp
      simp only [ho]
      have hq : ((parts.map fun x => (x.1, a.eval x.2)).toList) = parts.toList.map fun p => (p.1, a.eval p.2) := by simp
      simp only [Instr.buildSlice, run_underlying e1, Sem.run_bind, Result.andThen_ok, hsize, h0, if_true, if_neg (show ¬ (0 > 2 ^ 24) by omega), Sem.run_pure, hq]
      rw [h0] at q1
      simp only [q1, Go.newRow, newObj]
      rw [hl]
      rfl
    · rw [q2]
      apply List.take_of_length_le
      rw [← q2, Array.length_toList, q6, hl]
      exact Nat.le_refl _
  · obtain ⟨cs', ys, q1, q2, q3, q4, q5, q6⟩ := main ((Array.range (len * sz)).map (zv.cells[· % zv.cells.size]!)) (by simp)
    refine ⟨cs', ys, rows.length, Below.refl _ _, rfl, ?_, q3, q4, q5, Nat.le_refl _, hlm, by rw [q6, hl], ?_⟩
    · unfold execOp
      simp only [ho]
      have hq : ((parts.map fun x => (x.1, a.eval x.2)).toList) = parts.toList.map fun p => (p.1, a.eval p.2) := by simp
      simp only [Instr.buildSlice, run_underlying e1, Sem.run_bind, Result.andThen_ok, hsize, h0, if_false, if_neg (show ¬ (len * sz > 2 ^ 24) by omega), Sem.run_pure, hq, f4, q1, Go.newRow, newObj]
      rw [hl]
      rfl
    · rw [q2]
      apply List.take_of_length_le
      rw [← q2, Array.length_toList, q6, hl]
      exact Nat.le_refl _
where
  seq_len {ρ : Operand → Option AV} {sz : Nat} : ∀ {parts : List (Nat × Operand)} {k : Nat} {rows : List (List AV)}, seqA ρ sz k parts = some rows → rows.length = parts.length
    | [], k, rows, h => by simp [seqA] at h; subst h; rfl
    | (i, x) :: r, k, rows, h => by
      unfold seqA at h
      split at h
      · split at h
        · split at h
          · split at h
            · simp only [Option.map_eq_some_iff] at h
              obtain ⟨rows', h', rfl⟩ := h
              simp [seq_len h']
            · cases h
          · cases h
        · cases h
      · cases h

end Go.Proofs.Ytbcjcekoonebiaa.Tl
