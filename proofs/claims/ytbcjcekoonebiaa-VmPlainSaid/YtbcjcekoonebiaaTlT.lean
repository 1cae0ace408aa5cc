/- The tree logic, part T: arrays of the call's own, that are written, cut, appended to in place. Conditions: none. -/
import Derived.Test.YtbcjcekoonebiaaTlR
set_option linter.unusedVariables false
set_option linter.unusedSimpArgs false
set_option linter.unusedSectionVars false
namespace Go.Proofs.Ytbcjcekoonebiaa.Tl
open Go Go.RowKit

theorem arr_at {C : Cx} (hI : Inv C) {id ver : Nat} {k : MK} {v : Value} {e : TypeId} {sz : Nat} {rows : List (List AV)} (h : Rd C (.mv id ver k) v) (hH : C.H id = some (.arr e sz ver rows)) :
    ∃ g, C.G id = some g ∧ Mat g sz rows.length k v ∧ 0 < sz ∧ (∀ r ∈ rows, r.length = sz) ∧ ∃ xs, C.w.ownsRow C.w0.heap.size e sz g rows.length xs ∧ RdL C rows.flatten xs ∧ ∀ u ∈ xs, u.oneCell' = true := by
  simp only [Rd] at h
  obtain ⟨_, e', sz', cur, rows', h1, h2, h3⟩ := h
  rw [hH] at h1
  injection h1 with h1
  injection h1 with a1 a2 a3 a4
  subst a1 a2 a3 a4
  obtain ⟨g, g1, g2⟩ := h3 rfl
  obtain ⟨o, k3, k4⟩ := hI.obj id _ g1
  rw [hH] at k3
  injection k3 with k3
  subst k3
  obtain ⟨z1, z2, xs, z3, z4, z5⟩ := k4
  exact ⟨g, g1, g2, z1, z2, xs, z3, z4, z5⟩
theorem own_shape {w : World} {base : Nat} {e : TypeId} {sz : Nat} {v : Value} {n : Nat} {xs : List Value} (h : w.ownsRow base e sz v n xs) : ∃ A c, v = .slice A n c ∧ n ≤ c ∧ (A = none → n = 0 ∧ c = 0) ∧ ∀ a, A = some a → ∃ b, a = ⟨b, 0, none⟩ := by
  rcases h.2 with ⟨rfl, rfl⟩ | ⟨g, cap, cur, rfl, h1, h2, h3, h4⟩
  · exact ⟨none, 0, rfl, Nat.le_refl _, fun _ => ⟨rfl, rfl⟩, by simp⟩
  · exact ⟨_, cap, rfl, h3, by simp, fun a q => by injection q with q; exact ⟨g, q.symm⟩⟩
theorem flat_take {sz : Nat} : ∀ {rows : List (List AV)} (k : Nat), (∀ r ∈ rows, r.length = sz) → (rows.take k).flatten = rows.flatten.take (k * sz)
  | [], k, _ => by simp
  | r :: rows, 0, h => by simp
  | r :: rows, k + 1, h => by
    have hr := h r (by simp)
    rw [List.take_succ_cons, List.flatten_cons, List.flatten_cons, flat_take k (fun x hx => h x (by simp [hx])), Nat.add_mul, Nat.one_mul, Nat.add_comm, ← hr, List.take_length_add_append]
theorem flat_drop {sz : Nat} : ∀ {rows : List (List AV)} (k : Nat), (∀ r ∈ rows, r.length = sz) → (rows.drop k).flatten = rows.flatten.drop (k * sz)
  | [], k, _ => by simp
  | r :: rows, 0, h => by simp
  | r :: rows, k + 1, h => by
    have hr := h r (by simp)
    rw [List.drop_succ_cons, List.flatten_cons, flat_drop k (fun x hx => h x (by simp [hx])), Nat.add_mul, Nat.one_mul, Nat.add_comm, ← hr, List.drop_length_add_append]
theorem flat_set {sz : Nat} : ∀ {rows : List (List AV)} {i : Nat} {r : List AV} (k : Nat) (l : List AV), (∀ r ∈ rows, r.length = sz) → rows[i]? = some r → k + l.length ≤ sz → (rows.set i (spl r k l)).flatten = spl rows.flatten (i * sz + k) l
  | [], i, r, k, l, _, hi, _ => by simp at hi
  | x :: rows, 0, r, k, l, h, hi, hk => by
    simp at hi
    subst hi
    have hr := h x (by simp)
    simp only [List.set_cons_zero, List.flatten_cons, spl, Nat.zero_mul, Nat.zero_add, List.append_assoc]
    rw [List.take_append_of_le_length (by omega), List.drop_append_of_le_length (by omega)]
  | x :: rows, i + 1, r, k, l, h, hi, hk => by
    simp at hi
    have hr := h x (by simp)
    have ih := flat_set k l (fun y hy => h y (by simp [hy])) hi hk
    simp only [List.set_cons_succ, List.flatten_cons]
    rw [ih]
    simp only [spl]
    rw [show (i + 1) * sz + k = x.length + (i * sz + k) by rw [Nat.add_mul, hr]; omega, List.take_length_add_append, show x.length + (i * sz + k) + l.length = x.length + (i * sz + k + l.length) by omega, List.drop_length_add_append, List.append_assoc]

section
variable {P : Program} {o : Oper} {ρ : Operand → Option AV} {id ver : Nat} {e : TypeId} {sz : Nat} {rows : List (List AV)}

theorem OpS.mlen {ty el : TypeId} {x : Operand} (ho : o.op = .call { callee := .builtin .len, args := #[x], argTypes := #[ty] }) (hs : sort0 P ty = .slice el) (hx : ρ x = some (.mv id ver .hdr)) : OpS P o ρ [(id, .arr e sz ver rows)] [] (.int .i64 rows.length) := by
  refine OpS.val fun C a hI hρ hrd => ?_
  have q := hρ x (by simp [ho, Op.operands, Call.operands]) _ hx
  obtain ⟨g, g1, g2, _, _, xs, g3, _⟩ := arr_at hI q (hrd (id, .arr e sz ver rows) (by simp)).1
  obtain ⟨A, c, rfl, _⟩ := own_shape g3
  simp only [Mat] at g2
  have e1 := sort0_slice hs
  refine ⟨.int .i64 rows.length, ?_, by simp [Rd]⟩
  unfold execOp
  simp [ho, resolve, invoke, builtin, g2, Builtin.len_, run_underlying e1, goInt]

theorem OpS.mview {ty el e2 : TypeId} {x lo : Operand} (ho : o.op = .slice ty x (some lo) none none) (hs : sort0 P ty = .slice el) (he : elm P ty = some (e2, sz)) (hx : ρ x = some (.mv id ver .hdr)) {k : IntKind} {l : Int} (hl : ρ lo = some (.int k l)) (h0 : 0 ≤ l) (h1 : l.toNat ≤ rows.length) :
    OpS P o ρ [(id, .arr e sz ver rows)] [] (.mv id ver (.view l.toNat (rows.length - l.toNat) false)) := by
  refine OpS.val fun C a hI hρ hrd => ?_
  have q := hρ x (by simp [ho, Op.operands]) _ hx
  have ql := hρ lo (by simp [ho, Op.operands]) _ hl
  have hH := (hrd (id, .arr e sz ver rows) (by simp)).1
  obtain ⟨g, g1, g2, _, _, xs, g3, _⟩ := arr_at hI q hH
  obtain ⟨A, c, rfl, hc, hA, hA2⟩ := own_shape g3
  simp only [Mat] at g2
  simp only [Rd] at ql
  obtain ⟨e1, inf, e2, e3⟩ := elm_spec he
  have n0 : ¬ (l < 0) := by omega
  have hsb : (Instr.sliceBounds true rows.length c (some (a.eval lo)) none none).run P C.w = .ok (l.toNat, rows.length, c) C.w := by
    have : l.toNat ≤ rows.length := h1
    simp [Instr.sliceBounds, Instr.sliceBound, asIntOf, ql, n0, this, show l ≤ (rows.length : Int) by omega]
  have key : (Instr.sliceAt ty (a.eval x) (some (a.eval lo)) none none).run P C.w = .ok (.slice (if c = l.toNat then A else A.map (·.add (l.toNat * sz))) (rows.length - l.toNat) (c - l.toNat)) C.w := by
    simp [Instr.sliceAt, run_underlying e1, Instr.slice, g2, hsb, sizeOf, typeInfo, e2, e3]
  refine ⟨_, by unfold execOp; simp only [ho, Option.map_none, Option.map_some, Sem.run_bind, key, Result.andThen_ok, Sem.run_pure]; rfl, ?_⟩
  simp only [Rd]
  refine ⟨⟨_, _, _, rfl, by simp⟩, e, sz, ver, rows, hH, Nat.le_refl _, fun _ => ⟨_, g1, by omega, _, _, rfl, by omega, ?_, fun q => ?_⟩⟩
  rotate_left
  · cases A with
    | none => have := (hA rfl).2; omega
    | some a' => split at q <;> simp at q
  by_cases hn : rows.length - l.toNat = 0
  · exact .inl hn
  · right
    cases A with
    | none => have := (hA rfl).1; omega
    | some a' =>
      obtain ⟨b, rfl⟩ := hA2 a' rfl
      refine ⟨b, c, rfl, ?_⟩
      rw [if_neg (by omega)]
      simp [add_plain']

theorem OpS.mcut {ty el e2 : TypeId} {x hi : Operand} (ho : o.op = .slice ty x none (some hi) none) (hs : sort0 P ty = .slice el) (he : elm P ty = some (e2, sz)) (hx : ρ x = some (.mv id ver .hdr)) {k : IntKind} {h : Int} (hh : ρ hi = some (.int k h)) (h0 : 0 ≤ h) (h1 : h.toNat ≤ rows.length) :
    OpS P o ρ [(id, .arr e sz ver rows)] [(id, .arr e sz (ver + 1) (rows.take h.toNat))] (.mv id (ver + 1) .hdr) := by
  intro C a next Q hI hρ hrd hup hk
  have q := hρ x (by simp [ho, Op.operands]) _ hx
  have qh := hρ hi (by simp [ho, Op.operands]) _ hh
  have hH := (hrd (id, .arr e sz ver rows) (by simp)).1
  simp only at hH
  obtain ⟨g, g1, g2, z1, z2, xs, g3, z4, z5⟩ := arr_at hI q hH
  obtain ⟨A, c, rfl, hc, hA, hA2⟩ := own_shape g3
  simp only [Mat] at g2
  simp only [Rd] at qh
  obtain ⟨e1, inf, e2, e3⟩ := elm_spec he
  have n0 : ¬ (h < 0) := by omega
  have hsb : (Instr.sliceBounds true rows.length c none (some (a.eval hi)) none).run P C.w = .ok (0, h.toNat, c) C.w := by
    simp [Instr.sliceBounds, Instr.sliceBound, asIntOf, qh, n0, show h ≤ (c : Int) by omega]
  have key : (Instr.sliceAt ty (a.eval x) none (some (a.eval hi)) none).run P C.w = .ok (.slice A h.toNat c) C.w := by
    have : (if c = 0 then A else A.map (·.add (0 * sz))) = A := by
      split
      · rfl
      · cases A with
        | none => rfl
        | some a' => obtain ⟨b, rfl⟩ := hA2 a' rfl; simp [add_plain']
    simp [Instr.sliceAt, run_underlying e1, Instr.slice, g2, hsb, sizeOf, typeInfo, e2, e3]
    cases A with
    | none => simp
    | some a' => obtain ⟨b, rfl⟩ := hA2 a' rfl; simp [add_plain']
  have hln : (rows.take h.toNat).length = h.toNat := by rw [List.length_take]; omega
  have hmul : h.toNat * sz ≤ rows.length * sz := Nat.mul_le_mul_right _ h1
  have hown : C.w.ownsRow C.w0.heap.size e sz (.slice A h.toNat c) (rows.take h.toNat).length (xs.take (h.toNat * sz)) := by
    rw [hln]
    refine ⟨by rw [List.length_take, g3.1]; omega, ?_⟩
    rcases g3.2 with ⟨k1, k2⟩ | ⟨g, cap, cur, k1, k2, k3, k4, k5, k6, k7⟩
    · injection k1 with k1 k3 k4
      subst k1 k4
      left
      exact ⟨by rw [show h.toNat = 0 by omega], by omega⟩
    · injection k1 with k1 _ k8
      subst k1 k8
      right
      refine ⟨g, c, cur, rfl, k2, k3, by omega, k5, k6, ?_⟩
      rw [← k7, List.take_take, Nat.min_eq_left hmul]
  have hrd2 : RdL C (rows.take h.toNat).flatten (xs.take (h.toNat * sz)) := by
    rw [flat_take _ z2]
    have := z4.extract 0 (h.toNat * sz)
    simpa using this
  have hn := hI.arrUp g1 hH (ver' := ver + 1) (rows' := rows.take h.toNat) (v2 := .slice A h.toNat c) (.inl (Nat.lt_succ_self _)) C.w (xs.take (h.toNat * sz)) hown (fun r hr => z2 r (List.mem_of_mem_take hr)) hrd2 (fun u hu => z5 u (List.mem_of_mem_take hu))
    ⟨rfl, rfl, rfl, Nat.le_refl _, fun _ _ _ => rfl⟩ (.inl (by cases A <;> rfl))
  have hrun : (execOp a.eval o).run P C.w = .ok (.value (.slice A h.toNat c)) C.w := by
    unfold execOp
    simp only [ho, Option.map_none, Option.map_some, Sem.run_bind, key, Result.andThen_ok, Sem.run_pure]
  unfold Oper.wp
  rw [hrun, Oper.upon_value]
  refine hk { C with H := upd C.H id (.arr e sz (ver + 1) (rows.take h.toNat)), G := upd C.G id (.slice A h.toNat c), w := C.w } _ hn.1 hn.2 rfl rfl rfl (fun id' u q => ?_) (fun p hp => ?_) ?_
  · by_cases e' : id' = id
    · subst e'; exact ⟨_, upd_same _ _ _⟩
    · exact ⟨u, by simpa only [upd_ne _ _ e'] using q⟩
  · simp only [List.mem_singleton] at hp
    subst hp
    exact ⟨_, upd_same _ _ _⟩
  · simp only [Rd]
    exact ⟨⟨_, _, _, rfl⟩, e, sz, ver + 1, _, upd_same _ _ _, Nat.le_refl _, fun _ => ⟨_, upd_same _ _ _, rfl⟩⟩

theorem OpS.mapp {t : TypeId} {s x : Operand} (ho : o.op = .call { callee := .builtin .append, args := #[s, x], argTypes := #[t, t] }) (he : elm P t = some (e, sz)) {z : List AV} (hz : zr P e = some z) (hzl : z.length = sz) {by_ : Nat} (hby : byt P e = some by_) {tagx : Tag} {news : List (List AV)}
    (hs : ρ s = some (.mv id ver .hdr)) (hx : ρ x = some (.sl tagx sz news)) (hne : news ≠ []) (hb : (rows.length + news.length) * by_ ≤ 140737488355328) (hb2 : rows.length + news.length ≤ 9223372036854775807) :
    OpS P o ρ [(id, .arr e sz ver rows)] [(id, .arr e sz (ver + 1) (rows ++ news))] (.mv id (ver + 1) .hdr) := by
  intro C a next Q hI hρ hrd hup hk
  obtain ⟨m1, m2⟩ := operands_append t t s x ho
  have q := hρ s m1 _ hs
  have q' := hρ x m2 _ hx
  obtain ⟨e1, i, e2, e3⟩ := elm_spec he
  obtain ⟨i', zv, f1, f2, f3, _⟩ := zr_spec hz
  rw [e2] at f1
  injection f1 with f1
  subst f1
  have hH := (hrd (id, .arr e sz ver rows) (by simp)).1
  simp only at hH
  obtain ⟨g, g1, g2, hsz, z2, xs, hown, z4, z5⟩ := arr_at hI q hH
  simp only [Mat] at g2
  subst g2
  obtain ⟨b, off, c, vs, p0, p1, p2, p3, p4, p5⟩ := sl_vals q' hne
  have hm : 0 < news.length := List.length_pos_iff.2 hne
  have hzs : zv.cells.size = sz := by
    have := (listV_rd (C := C) f3).1.length
    simp at this
    omega
  have hbi : i.bytes = by_ := by simpa [byt, e2] using hby
  obtain ⟨v', w', hr, h2, h3, h4⟩ := run_app (P := P) C.w C.w0.heap.size t o.type e i zv sz by_ e1 e2 f2 e3 hbi hzs hsz (a.eval s) rows.length xs hown ⟨b, off, none⟩ news.length c vs p3 p4 p2 hm (by simp only [maxLen]; omega) hb hI.below.size
  have hn := hI.arrUp g1 hH (ver' := ver + 1) (rows' := rows ++ news) (v2 := v') (.inl (Nat.lt_succ_self _)) w' (xs ++ vs) (by rw [List.length_append]; exact h2) (fun r hr => (List.mem_append.1 hr).elim (z2 r) (p5 r)) (by rw [List.flatten_append]; exact z4.append p1)
    (fun u hu => (List.mem_append.1 hu).elim (z5 u) (p2 u)) h3 (h4.imp (·.1) (·.1))
  have hrun : (execOp a.eval o).run P C.w = .ok (.value v') w' := by
    unfold execOp
    simp only [ho, resolve, invoke, builtin, Sem.run_bind, Sem.run_pure, Result.andThen_ok, List.map_toArray, List.map_cons, List.map_nil, p0, hr]
  unfold Oper.wp
  rw [hrun, Oper.upon_value]
  refine hk _ v' hn.1 hn.2 rfl rfl rfl (fun id' u q => ?_) (fun p hp => ?_) ?_
  · by_cases e' : id' = id
    · subst e'; exact ⟨_, upd_same _ _ _⟩
    · exact ⟨u, by simpa only [upd_ne _ _ e'] using q⟩
  · simp only [List.mem_singleton] at hp
    subst hp
    exact ⟨_, upd_same _ _ _⟩
  · simp only [Rd]
    obtain ⟨A, c', rfl, _⟩ := own_shape h2
    exact ⟨⟨_, _, _, rfl⟩, e, sz, ver + 1, _, upd_same _ _ _, Nat.le_refl _, fun _ => ⟨_, upd_same _ _ _, rfl⟩⟩

theorem OpS.midx {ty e2 : TypeId} {x i : Operand} (ho : o.op = .indexAddr ty x i) (he : elm P ty = some (e2, sz)) (hx : ρ x = some (.mv id ver .hdr)) {k : IntKind} {j : Int} (hi : ρ i = some (.int k j)) (h0 : 0 ≤ j) (h1 : j.toNat < rows.length) :
    OpS P o ρ [(id, .arr e sz ver rows)] [] (.mv id ver (.cell (j.toNat * sz))) := by
  refine OpS.val fun C a hI hρ hrd => ?_
  have q := hρ x (by simp [ho, Op.operands]) _ hx
  have qi := hρ i (by simp [ho, Op.operands]) _ hi
  have hH := (hrd (id, .arr e sz ver rows) (by simp)).1
  obtain ⟨g, g1, g2, hsz, _, xs, g3, _⟩ := arr_at hI q hH
  simp only [Mat] at g2
  simp only [Rd] at qi
  obtain ⟨e1, inf, e2, e3⟩ := elm_spec he
  rcases g3.2 with ⟨_, k2⟩ | ⟨b, cap, cur, rfl, k2⟩
  · omega
  · have hlt' : j < (rows.length : Int) := by omega
    refine ⟨.pointer (some ⟨b, j.toNat * sz, none⟩), ?_, ?_⟩
    · unfold execOp
      simp [ho, g2, qi, Instr.indexAt, asIntOf, run_underlying e1, h0, hlt', sizeOf, typeInfo, e2, e3, add_plain']
    · simp only [Rd]
      refine ⟨⟨_, rfl⟩, e, sz, ver, rows, hH, Nat.le_refl _, fun _ => ⟨_, g1, ?_, b, cap, rfl, rfl⟩⟩
      have : (j.toNat + 1) * sz ≤ rows.length * sz := Nat.mul_le_mul_right _ h1
      rw [Nat.add_mul] at this
      omega

theorem OpS.mload {T : TypeId} {x : Operand} (ho : o.op = .load T x) {off : Nat} (hx : ρ x = some (.mv id ver (.cell off))) {g : Bool} {n : Nat} (hlay : lay P T = some (g, n)) {y : AV} (hy : valA g n (rows.flatten.drop off) = some y) :
    OpS P o ρ [(id, .arr e sz ver rows)] [] y := by
  refine OpS.val fun C a hI hρ hrd => ?_
  have q := hρ x (by simp [ho, Op.operands]) _ hx
  have hH := (hrd (id, .arr e sz ver rows) (by simp)).1
  obtain ⟨gv, g1, g2, hsz, _, xs, g3, z4, z5⟩ := arr_at hI q hH
  obtain ⟨_, b, c', rfl, q1⟩ := g2
  have hc := g3.cells (g := b) rfl
  obtain ⟨z, m1, m2⟩ := loadVar_cells (C := C) hlay hy b off (xs.drop off) (by
    have := z4.extract off rows.flatten.length
    rw [List.take_of_length_le (by simp), List.take_of_length_le (by have := z4.length; simp at this ⊢; omega)] at this
    exact this) (fun u hu => z5 u (List.mem_of_mem_drop hu)) (fun j u hj => by
    rw [List.getElem?_drop] at hj
    have := hc _ _ hj
    rwa [add_plain', Nat.zero_add] at this)
  refine ⟨z, ?_, m2⟩
  unfold execOp
  simp only [ho, Instr.loadAt, Instr.sureAddr, q1, Sem.run_bind, Sem.run_pure, Result.andThen_ok, m1]

theorem OpS.mfld {S : TypeId} {x : Operand} {f : Nat} (ho : o.op = .fieldAddr S x f) {off n off2 : Nat} {g : Bool} (h1 : fld P S f = some (off, n + 1, g)) (hx : ρ x = some (.mv id ver (.cell off2))) (hlt : off2 + off < rows.length * sz) :
    OpS P o ρ [(id, .arr e sz ver rows)] [] (.mv id ver (.cell (off2 + off))) := by
  refine OpS.val fun C a hI hρ hrd => ?_
  have q := hρ x (by simp [ho, Op.operands]) _ hx
  have hH := (hrd (id, .arr e sz ver rows) (by simp)).1
  obtain ⟨gv, g1, g2, hsz, _, xs, g3, z4, z5⟩ := arr_at hI q hH
  obtain ⟨_, b, c', rfl, q1⟩ := g2
  obtain ⟨fs, y, e1, e2, e3, e4⟩ := fld_spec h1
  obtain ⟨_, _, _, _, e5⟩ := lay_spec e4
  refine ⟨.pointer (some ⟨b, off2 + off, none⟩), ?_, ?_⟩
  · unfold execOp
    simp [ho, q1, Instr.fieldAt, run_underlying e1, e2, Instr.sureAddr, fieldPlace, e5, e3, add_plain']
  · simp only [Rd]
    exact ⟨⟨_, rfl⟩, e, sz, ver, rows, hH, Nat.le_refl _, fun _ => ⟨_, g1, hlt, b, c', rfl, rfl⟩⟩

theorem OpS.mstore {T : TypeId} {x y : Operand} (ho : o.op = .store T x y) {off : Nat} (hx : ρ x = some (.mv id ver (.cell off))) {v : AV} (hy : ρ y = some v) {l : List AV} (hl : cellsA v = some l) {g : Bool} (hlay : lay P T = some (g, l.length)) {rows' : List (List AV)} (hln : rows'.length = rows.length) (hrl : ∀ r ∈ rows', r.length = sz)
    (hf : rows'.flatten = spl rows.flatten off l) (hb : off + l.length ≤ rows.length * sz) : OpS P o ρ [(id, .arr e sz ver rows)] [(id, .arr e sz ver rows')] .undef := by
  intro C a next Q hI hρ hrd hup hk
  have q := hρ x (by simp [ho, Op.operands]) _ hx
  have q' := hρ y (by simp [ho, Op.operands]) _ hy
  have hH := (hrd (id, .arr e sz ver rows) (by simp)).1
  simp only at hH
  obtain ⟨gv, g1, g2, hsz, z2, xs, g3, z4, z5⟩ := arr_at hI q hH
  obtain ⟨_, b, c', rfl, q1⟩ := g2
  obtain ⟨m1, m2⟩ := cellsA_rd hl q'
  obtain ⟨inf, hi, hs, hag, hsz2⟩ := lay_spec hlay
  have hll := m1.length
  simp only [Array.length_toList] at hll
  rcases g3.2 with ⟨k1, _⟩ | ⟨b2, cap, cur, k1, k2, k3, k4, k5, k6, k7⟩
  · cases k1
  · injection k1 with k1 _ k8
    injection k1 with k1
    injection k1 with k1 _ _
    subst k1 k8
    have hcap : rows.length * sz ≤ c' * sz := Nat.mul_le_mul_right _ k4
    have hst := run_storeCells_at P b off e (a.eval y).cells.toList 0 cur C.w k3 (by simp; omega) m2
    simp only [Nat.add_zero] at hst
    have hrun : (execOp a.eval o).run P C.w = .ok .skip (C.w.setRow b (splV cur.toList off (a.eval y).cells.toList).toArray) := by
      unfold execOp
      simp only [ho, Instr.storeAt, Instr.sureAddr, q1, Sem.run_bind, Sem.run_pure, Result.andThen_ok, storeVar, hsz2]
      rw [if_neg (by simp; omega)]
      rw [hst]
      simp [splV]
    have hxl : xs.length = rows.length * sz := g3.1
    have hown : (C.w.setRow b (splV cur.toList off (a.eval y).cells.toList).toArray).ownsRow C.w0.heap.size e sz (.slice (some ⟨b, 0, none⟩) rows.length c') rows'.length (splV xs off (a.eval y).cells.toList) := by
      rw [hln]
      refine ⟨by simp only [splV, List.length_append, List.length_take, List.length_drop, Array.length_toList]; omega, .inr ⟨b, c', _, rfl, k2, setRow_heap C.w b cur _ e _ k3, k4, k5, ?_, ?_⟩⟩
      · simp only [List.size_toArray, splV, List.length_append, List.length_take, List.length_drop, Array.length_toList]; omega
      · rw [← k7]
        simp only [splV]
        have hA : (a.eval y).cells.toList.length = l.length := by simp; omega
        rw [List.take_append, List.take_append, List.take_take, List.take_take, List.drop_take]
        simp only [List.length_take, Array.length_toList, hA]
        rw [List.take_of_length_le (l := (a.eval y).cells.toList) (by rw [hA]; omega)]
        congr 1
        · rw [Nat.min_eq_right (by omega), Nat.min_eq_left (by omega)]
        · congr 1
          congr 1
          omega
    have hn := hI.arrUp g1 hH (ver' := ver) (rows' := rows') (v2 := .slice (some ⟨b, 0, none⟩) rows.length c') (.inr ⟨rfl, rfl, hln⟩) _ (splV xs off (a.eval y).cells.toList) hown hrl (by rw [hf]; exact z4.spl m1 off) (fun u hu => by
      rcases mem_splV hu with hu | hu
      · exact z5 u hu
      · exact m2 u hu) ⟨rfl, rfl, rfl, by simp, fun k hk hne => setRow_other C.w b k _ (fun e => hne (by rw [e]; rfl))⟩ (.inl rfl)
    unfold Oper.wp
    rw [hrun, Oper.upon_skip]
    refine hk _ undef hn.1 hn.2 rfl rfl rfl (fun id' u q => ?_) (fun p hp => ?_) (by simp [Rd])
    · by_cases e' : id' = id
      · subst e'; exact ⟨_, upd_same _ _ _⟩
      · exact ⟨u, by simpa only [upd_ne _ _ e'] using q⟩
    · simp only [List.mem_singleton] at hp
      subst hp
      exact ⟨_, upd_same _ _ _⟩

/-- Rows of an array, put behind a row of the call's own. -/
theorem OpS.appV {t : TypeId} {s x : Operand} (ho : o.op = .call { callee := .builtin .append, args := #[s, x], argTypes := #[t, t] }) {e1 : TypeId} (he : elm P t = some (e1, sz)) {z : List AV} (hz : zr P e1 = some z) (hzl : z.length = sz) {by_ : Nat} (hby : byt P e1 = some by_) {id1 lo n : Nat} {nn : Bool} {rows1 : List (List AV)}
    (hs : ρ s = some (.sl (.own id1) sz rows1)) (hx : ρ x = some (.mv id ver (.view lo n nn))) (hn0 : n ≠ 0) (hln : lo + n ≤ rows.length) (hb : (rows1.length + n) * by_ ≤ 140737488355328) (hb2 : rows1.length + n ≤ 9223372036854775807) :
    OpS P o ρ [(id1, .row e1 sz rows1.length), (id, .arr e sz ver rows)] [(id1, .row e1 sz (rows1.length + n))] (.sl (.own id1) sz (rows1 ++ (rows.drop lo).take n)) := by
  intro C a next Q hI hρ hrd hup hk
  obtain ⟨m1, m2⟩ := operands_append t t s x ho
  have q := hρ s m1 _ hs
  have q' := hρ x m2 _ hx
  obtain ⟨e1', i, e2, e3⟩ := elm_spec he
  obtain ⟨i', zv, f1, f2, f3, _⟩ := zr_spec hz
  rw [e2] at f1
  injection f1 with f1
  subst f1
  obtain ⟨k1, kG⟩ := hrd (id1, .row e1 sz rows1.length) (by simp)
  simp only at k1 kG
  obtain ⟨gv, kG⟩ := kG
  obtain ⟨ob, k3, k4⟩ := hI.obj id1 _ kG
  rw [k1] at k3
  injection k3 with k3
  subst k3
  obtain ⟨hsz, xs, hown⟩ := k4
  have hGs : C.G id1 = some (a.eval s) := by
    have q2 := q
    simp only [Rd] at q2
    obtain ⟨A, c, _, _, _, _, e4, sz4, m, t1, t2, t3⟩ := q2
    rw [k1] at t1
    injection t1 with t1
    injection t1 with _ _ t1
    exact t3 t1
  rw [kG] at hGs
  injection hGs with hGs
  subst hGs
  obtain ⟨_, r1, r2, r3⟩ := own_flat q k1 rfl hown
  obtain ⟨g, g1, g2, _, z2, ys, g3, z4, z5⟩ := arr_at hI q' (hrd (id, .arr e sz ver rows) (by simp)).1
  obtain ⟨_, A, c, p0, hc, hA⟩ := g2
  obtain ⟨b, c', rfl, rfl⟩ := hA.1.resolve_left hn0
  have hc := g3.cells (g := b) rfl
  have hyl : ys.length = rows.length * sz := g3.1
  have hmul : (lo + n) * sz ≤ rows.length * sz := Nat.mul_le_mul_right _ hln
  rw [Nat.add_mul] at hmul
  let vs := (ys.drop (lo * sz)).take (n * sz)
  have hvl : vs.length = n * sz := by simp only [vs, List.length_take, List.length_drop]; omega
  have hflat : ((rows.drop lo).take n).flatten = (rows.flatten.drop (lo * sz)).take (n * sz) := by
    rw [flat_take n (fun r hr => z2 r (List.mem_of_mem_drop hr)), flat_drop lo z2]
  have hvr : RdL C ((rows.drop lo).take n).flatten vs := by rw [hflat]; exact z4.extract (lo * sz) (n * sz)
  have p4 : ∀ j u, vs[j]? = some u → C.w.cell? ((⟨b, lo * sz, none⟩ : Addr).add j) = some u := fun j u hj => by
    have hjl : j < vs.length := (List.getElem?_eq_some_iff.1 hj).1
    simp only [vs] at hj
    rw [List.getElem?_take, if_pos (by omega), List.getElem?_drop] at hj
    have := hc _ _ hj
    rw [add_plain'] at this ⊢
    simpa using this
  have p2 : ∀ u ∈ vs, u.oneCell' = true := fun u hu => z5 u (List.mem_of_mem_drop (List.mem_of_mem_take hu))
  have hzs : zv.cells.size = sz := by
    have := (listV_rd (C := C) f3).1.length
    simp at this
    omega
  have hbi : i.bytes = by_ := by simpa [byt, e2] using hby
  obtain ⟨v', w', hr, h2, h3, h4⟩ := run_app (P := P) C.w C.w0.heap.size t o.type e1 i zv sz by_ e1' e2 f2 e3 hbi hzs hsz (a.eval s) rows1.length xs hown ⟨b, lo * sz, none⟩ n c vs hvl p4 p2 (by omega) (by simp only [maxLen]; omega) hb hI.below.size
  have hn := hI.appended kG k1 (by omega : 0 < n) w' xs vs hown h2 h3 h4
  have hrun : (execOp a.eval o).run P C.w = .ok (.value v') w' := by
    unfold execOp
    simp only [ho, resolve, invoke, builtin, Sem.run_bind, Sem.run_pure, Result.andThen_ok, List.map_toArray, List.map_cons, List.map_nil, p0, hr]
  have hlt : ((rows.drop lo).take n).length = n := by rw [List.length_take, List.length_drop]; omega
  unfold Oper.wp
  rw [hrun, Oper.upon_value]
  refine hk _ v' hn.1 hn.2 rfl rfl rfl (fun id' u h => ?_) (fun p hp => ?_) ?_
  · by_cases e' : id' = id1
    · subst e'; exact ⟨_, upd_same _ _ _⟩
    · exact ⟨u, by simpa only [upd_ne _ _ e'] using h⟩
  · simp only [List.mem_singleton] at hp
    subst hp
    exact ⟨_, upd_same _ _ _⟩
  · refine own_rd hn.1 (e := e1) (n := rows1.length + n) (ys := xs ++ vs) (upd_same _ _ _) (upd_same _ _ _) (by rw [List.length_append, hlt]) (fun r hr => ?_) h2 ?_ (fun u hu => ?_)
    · rcases List.mem_append.1 hr with h | h
      · exact r3 r h
      · exact z2 r (List.mem_of_mem_drop (List.mem_of_mem_take h))
    · rw [List.flatten_append]
      exact (r1.le hn.2).append (hvr.le hn.2)
    · rcases List.mem_append.1 hu with h | h
      · exact r2 u h
      · exact p2 u h
theorem OpS.appV0 {t : TypeId} {s x : Operand} (ho : o.op = .call { callee := .builtin .append, args := #[s, x], argTypes := #[t, t] }) {e1 : TypeId} (he : elm P t = some (e1, sz)) {lo : Nat} {nn : Bool} {tag : Tag} {szs : Nat} {rows1 : List (List AV)}
    (hs : ρ s = some (.sl tag szs rows1)) (hx : ρ x = some (.mv id ver (.view lo 0 nn))) : OpS P o ρ [(id, .arr e sz ver rows)] [] (.sl tag szs rows1) := by
  refine OpS.val fun C a hI hρ hrd => ?_
  obtain ⟨m1, m2⟩ := operands_append t t s x ho
  have q := hρ s m1 _ hs
  have q' := hρ x m2 _ hx
  refine ⟨a.eval s, ?_, q⟩
  obtain ⟨g, g1, g2, _, z2, ys, g3, z4, z5⟩ := arr_at hI q' (hrd (id, .arr e sz ver rows) (by simp)).1
  obtain ⟨_, A', c', q0', _⟩ := g2
  simp only [Rd] at q
  obtain ⟨A, c, q0, hc, _⟩ := q
  obtain ⟨e1', i, e2, e3⟩ := elm_spec he
  have key : (Builtin.append_ #[t, t] o.type #[a.eval s, a.eval x]).run P C.w = .ok (a.eval s) C.w := by
    rw [q0, q0']
    cases A' with
    | none => cases A <;> simp [Builtin.append_, run_underlying e1', sizeOf, typeInfo, e2, Builtin.lenOf, hc, Builtin.firstCells, storeCells]
    | some a' => cases A <;> simp [Builtin.append_, run_underlying e1', sizeOf, typeInfo, e2, Builtin.lenOf, hc, Builtin.firstCells, loadCells, loadCellsFrom, storeCells]
  unfold execOp
  simp only [ho, resolve, invoke, builtin, Sem.run_bind, Sem.run_pure, Result.andThen_ok, List.map_toArray, List.map_cons, List.map_nil, key]
end

theorem valA_app {g : Bool} {n : Nat} {a b : List AV} {y : AV} (h : valA g n a = some y) : valA g n (a ++ b) = some y := by
  unfold valA at h ⊢
  split at h
  · rename_i hg
    rw [if_pos hg]
    split at h
    · rename_i hn
      injection h with h
      rw [if_pos (by rw [List.length_append]; omega), ← h, List.take_append_of_le_length hn]
    · cases h
  · rename_i hg
    rw [if_neg hg]
    cases a with
    | nil => simp at h
    | cons x a => simpa using h
theorem flat_at {sz : Nat} {rows : List (List AV)} {q k : Nat} {row : List AV} (h : ∀ r ∈ rows, r.length = sz) (hq : rows[q]? = some row) (hk : k ≤ sz) : ∃ rest, rows.flatten.drop (q * sz + k) = row.drop k ++ rest := by
  have hr := h row (List.mem_of_getElem? hq)
  rw [← List.drop_drop, ← flat_drop q h, drop_get hq, List.flatten_cons, List.drop_append_of_le_length (by omega)]
  exact ⟨_, rfl⟩
where
  drop_get {rows : List (List AV)} {q : Nat} {row : List AV} (hq : rows[q]? = some row) : rows.drop q = row :: rows.drop (q + 1) := by
    have hlt : q < rows.length := (List.getElem?_eq_some_iff.1 hq).1
    rw [List.drop_eq_getElem_cons hlt]
    rw [List.getElem?_eq_getElem hlt] at hq
    injection hq with hq
    rw [hq]

section
variable {P : Program} {T : TI} (hT : T.Good P) {ops : Array Oper} {M : Nat → Mk} {o : Oper} {rest : List Oper} {i n : Nat} {E : List (Nat × AV)} {H : List (Nat × AObj)} {Q : St → Prop} {id ver : Nat} {e : TypeId} {sz : Nat} {rows : List (List AV)}
include hT

/-- How many rows an array has. -/
theorem AL.mln {d : Nat} (hd : o.dst = some d) (hn : Nat.blt d n = true) (hg : gdec ops (lk E) o = some true) {ty el : TypeId} {x : Operand} (ho : o.op = .call { callee := .builtin .len, args := #[x], argTypes := #[ty] }) (hs : gt T.srt ty = some (.slice el)) (hx : evE E x = some (.mv id ver .hdr)) (hH : lk H id = some (.arr e sz ver rows)) {m : Nat} (hm : rows.length = m)
    (hc : ColN M i (lk H) [(id, .arr e sz ver rows)] []) (k : AL P ops M rest (i + 1) (mkS n ((d, .int .i64 (m : Int)) :: E) H) Q) : AL P ops M (o :: rest) i (mkS n E H) Q := by
  subst hm
  refine AL.op (dOk1 hd hn) hg (rd := [(id, .arr e sz ver rows)]) (up := []) (v := .int .i64 rows.length) ⟨by rw [ev_lk]; exact OpS.mlen ho (hT.srt hs) hx, fun p hp => ?_, by simp, .inr ⟨.inr ⟨by rw [ho]; rfl, fun p hp => ⟨x, by rw [ho]; simp [Op.operands, Call.operands], .inr ⟨ver, .hdr, ?_⟩⟩⟩, .inl rfl⟩, hc.col⟩ ?_
  · simp only [List.mem_singleton] at hp; subst hp; exact hH
  · simp only [List.mem_singleton] at hp; subst hp; rw [ev_lk]; exact hx
  · unfold St.step
    rw [hd, lk_pt]
    exact k
/-- The rows of an array from one on. -/
theorem AL.mvw {d : Nat} (hd : o.dst = some d) (hn : Nat.blt d n = true) (hg : gdec ops (lk E) o = some true) {ty el e2 : TypeId} {x lo : Operand} (ho : o.op = .slice ty x (some lo) none none) (hs : gt T.srt ty = some (.slice el)) (he : gt T.elm ty = some (e2, sz)) (hx : evE E x = some (.mv id ver .hdr)) (hH : lk H id = some (.arr e sz ver rows)) {kk : IntKind} {l : Int} (hl : evE E lo = some (.int kk l)) {m : Nat} (hm : rows.length = m) (h0 : 0 ≤ l ∧ l.toNat ≤ m) (hb : (M i).b = true)
    (hc : ColN M i (lk H) [(id, .arr e sz ver rows)] []) (k : AL P ops M rest (i + 1) (mkS n ((d, .mv id ver (.view l.toNat (m - l.toNat) false)) :: E) H) Q) : AL P ops M (o :: rest) i (mkS n E H) Q := by
  subst hm
  refine AL.op (dOk1 hd hn) hg (rd := [(id, .arr e sz ver rows)]) (up := []) (v := .mv id ver (.view l.toNat (rows.length - l.toNat) false)) ⟨by rw [ev_lk]; exact OpS.mview ho (hT.srt hs) (hT.elm he) hx hl h0.1 h0.2, fun p hp => ?_, by simp, .inl hb, hc.col⟩ ?_
  · simp only [List.mem_singleton] at hp; subst hp; exact hH
  · unfold St.step
    rw [hd, lk_pt]
    exact k
/-- An array is cut. -/
theorem AL.mct {d : Nat} (hd : o.dst = some d) (hn : Nat.blt d n = true) (hg : gdec ops (lk E) o = some true) {ty el e2 : TypeId} {x hi : Operand} (ho : o.op = .slice ty x none (some hi) none) (hs : gt T.srt ty = some (.slice el)) (he : gt T.elm ty = some (e2, sz)) (hx : evE E x = some (.mv id ver .hdr)) (hH : lk H id = some (.arr e sz ver rows)) {kk : IntKind} {h : Int} (hh : evE E hi = some (.int kk h)) {m : Nat} (hm : rows.length = m) (h0 : 0 ≤ h ∧ h.toNat ≤ m) {rows2 : List (List AV)} (hr : rows.take h.toNat = rows2) (hb : (M i).b = true)
    (hc : ColN M i (lk H) [(id, .arr e sz ver rows)] [(id, .arr e sz (ver + 1) rows2)]) (k : AL P ops M rest (i + 1) (mkS n ((d, .mv id (ver + 1) .hdr) :: E) ((id, .arr e sz (ver + 1) rows2) :: H)) Q) : AL P ops M (o :: rest) i (mkS n E H) Q := by
  subst hm hr
  refine AL.op (dOk1 hd hn) hg (rd := [(id, .arr e sz ver rows)]) (up := [(id, .arr e sz (ver + 1) (rows.take h.toNat))]) (v := .mv id (ver + 1) .hdr) ⟨by rw [ev_lk]; exact OpS.mcut ho (hT.srt hs) (hT.elm he) hx hh h0.1 h0.2, fun p hp => ?_, fun p hp => ?_, .inl hb, hc.col⟩ ?_
  · simp only [List.mem_singleton] at hp; subst hp; exact hH
  · simp only [List.mem_singleton] at hp; subst hp; exact .inl ⟨_, List.mem_singleton.2 rfl⟩
  · unfold St.step
    rw [hd, lk_pt, updL_lk]
    exact k
/-- append to an array. -/
theorem AL.mpp {d : Nat} (hd : o.dst = some d) (hn : Nat.blt d n = true) (hg : gdec ops (lk E) o = some true) {ty : TypeId} {s : Operand} {t : Tmp} (ho : o.op = .call { callee := .builtin .append, args := #[s, .tmp t], argTypes := #[ty, ty] }) (he : gt T.elm ty = some (e, sz)) {z : List AV} (hz : gt T.zr e = some z) (hzl : Nat.beq z.length sz = true) {by_ : Nat} (hby : gt T.byt e = some by_) {tagx : Tag} {news0 news rows2 : List (List AV)}
    (hs : evE E s = some (.mv id ver .hdr)) (hst : s ≠ .tmp t) (hx : lk E t = some (.sl tagx sz news0)) (hH : lk H id = some (.arr e sz ver rows)) (hb : (M i).b = true) (hne : news ≠ []) (hw : WvR news0 news) (hr : rows ++ news = rows2) (hl : rows2.length ≤ 1000000) (hbb : Nat.ble by_ 1000000 = true)
    (hc : ColN M i (lk H) [(id, .arr e sz ver rows)] [(id, .arr e sz (ver + 1) rows2)]) (k : AL P ops M rest (i + 1) (mkS n ((d, .mv id (ver + 1) .hdr) :: E) ((id, .arr e sz (ver + 1) rows2) :: H)) Q) : AL P ops M (o :: rest) i (mkS n E H) Q := by
  subst hr
  rw [List.length_append] at hl
  have h1 := Nat.le_of_ble_eq_true hbb
  have h2 : (rows.length + news.length) * by_ ≤ 1000000 * 1000000 := Nat.mul_le_mul hl h1
  have hE : WE E ((t, .sl tagx sz news) :: E) := (WE.refl E).put t hx ⟨.inl rfl, hw, .inl rfl⟩
  have hs' : evE ((t, .sl tagx sz news) :: E) s = some (.mv id ver .hdr) := by
    cases s with
    | tmp u =>
      show lk ((t, _) :: E) u = _
      rw [lk_cons, upd_ne _ _ (fun q => hst (by rw [q]))]
      exact hs
    | const v => exact hs
    | func f => exact hs
    | global g => exact hs
  have hx' : evE ((t, .sl tagx sz news) :: E) (.tmp t) = some (.sl tagx sz news) := by
    show lk ((t, _) :: E) t = _
    rw [lk_cons, upd_same]
  refine AL.op (dOk1 hd hn) hg (rd := [(id, .arr e sz ver rows)]) (up := [(id, .arr e sz (ver + 1) (rows ++ news))]) (v := .mv id (ver + 1) .hdr) ⟨by rw [ev_lk]; exact (OpS.mapp ho (hT.elm he) (hT.zr hz) (Nat.eq_of_beq_eq_true hzl) (hT.byt hby) hs' hx' hne (by omega) (by omega)).weak hE.ev, fun p hp => ?_, fun p hp => ?_, .inl hb, hc.col⟩ ?_
  · simp only [List.mem_singleton] at hp; subst hp; exact hH
  · simp only [List.mem_singleton] at hp; subst hp; exact .inl ⟨_, List.mem_singleton.2 rfl⟩
  · unfold St.step
    rw [hd, lk_pt, updL_lk]
    exact k
/-- The address of a row of an array. -/
theorem AL.mix {d : Nat} (hd : o.dst = some d) (hn : Nat.blt d n = true) (hg : gdec ops (lk E) o = some true) {ty e2 : TypeId} {x ix : Operand} (ho : o.op = .indexAddr ty x ix) (he : gt T.elm ty = some (e2, sz)) (hx : evE E x = some (.mv id ver .hdr)) (hH : lk H id = some (.arr e sz ver rows)) {kk : IntKind} {j : Int} (hi : evE E ix = some (.int kk j)) {q : Nat} (h0 : 0 ≤ j) (hq : j.toNat = q) {row : List AV} (hrow : rows[q]? = some row) (hb : (M i).b = true)
    (hc : ColN M i (lk H) [(id, .arr e sz ver rows)] []) (k : AL P ops M rest (i + 1) (mkS n ((d, .mv id ver (.cell (q * sz + 0))) :: E) H) Q) : AL P ops M (o :: rest) i (mkS n E H) Q := by
  subst hq
  have hlt : j.toNat < rows.length := (List.getElem?_eq_some_iff.1 hrow).1
  refine AL.op (dOk1 hd hn) hg (rd := [(id, .arr e sz ver rows)]) (up := []) (v := .mv id ver (.cell (j.toNat * sz))) ⟨by rw [ev_lk]; exact OpS.midx ho (hT.elm he) hx hi h0 hlt, fun p hp => ?_, by simp, .inl hb, hc.col⟩ ?_
  · simp only [List.mem_singleton] at hp; subst hp; exact hH
  · unfold St.step
    rw [hd, lk_pt]
    exact k
/-- .. of a field in it. -/
theorem AL.mfl {d : Nat} (hd : o.dst = some d) (hn : Nat.blt d n = true) (hg : gdec ops (lk E) o = some true) {S : TypeId} {x : Operand} {f : Nat} (ho : o.op = .fieldAddr S x f) {off m : Nat} {g : Bool} (h1 : T.fl S f = some (off, m + 1, g)) {q k0 k1 : Nat} (hx : evE E x = some (.mv id ver (.cell (q * sz + k0)))) (hH : lk H id = some (.arr e sz ver rows)) (hk : k0 + off = k1) (hks : Nat.blt k1 sz = true) {row : List AV} (hrow : rows[q]? = some row) (hb : (M i).b = true)
    (hc : ColN M i (lk H) [(id, .arr e sz ver rows)] []) (k : AL P ops M rest (i + 1) (mkS n ((d, .mv id ver (.cell (q * sz + k1))) :: E) H) Q) : AL P ops M (o :: rest) i (mkS n E H) Q := by
  subst hk
  have hlt : q < rows.length := (List.getElem?_eq_some_iff.1 hrow).1
  have h2 : (q + 1) * sz ≤ rows.length * sz := Nat.mul_le_mul_right _ hlt
  rw [Nat.add_mul] at h2
  have h3 : k0 + off < sz := Nat.le_of_ble_eq_true hks
  rw [← Nat.add_assoc] at k
  refine AL.op (dOk1 hd hn) hg (rd := [(id, .arr e sz ver rows)]) (up := []) (v := .mv id ver (.cell (q * sz + k0 + off))) ⟨by rw [ev_lk]; exact OpS.mfld ho (hT.fld h1) hx (by omega), fun p hp => ?_, by simp, .inl hb, hc.col⟩ ?_
  · simp only [List.mem_singleton] at hp; subst hp; exact hH
  · unfold St.step
    rw [hd, lk_pt]
    exact k
/-- A load from an array. -/
theorem AL.mld {d : Nat} (hd : o.dst = some d) (hn : Nat.blt d n = true) (hg : gdec ops (lk E) o = some true) {ty : TypeId} {x : Operand} (ho : o.op = .load ty x) {q k0 : Nat} (hx : evE E x = some (.mv id ver (.cell (q * sz + k0)))) {g : Bool} {m : Nat} (hlay : gt T.lay ty = some (g, m)) (hH : lk H id = some (.arr e sz ver rows)) {row : List AV} (hrow : rows[q]? = some row) (hks : Nat.ble k0 sz = true) {y : AV} (hy : valA g m (row.drop k0) = some y)
    (hc : ColN M i (lk H) [(id, .arr e sz ver rows)] []) (k : AL P ops M rest (i + 1) (mkS n ((d, y) :: E) H) Q) : AL P ops M (o :: rest) i (mkS n E H) Q := by
  have hS : OpS P o (evE E) [(id, .arr e sz ver rows)] [] y := by
    intro C a next Q hI hρ hrd hup hk
    obtain ⟨_, _, _, _, z2, _⟩ := arr_at hI (hρ x (by rw [ho]; simp [Op.operands]) _ hx) (hrd (id, .arr e sz ver rows) (by simp)).1
    obtain ⟨rest, hr⟩ := flat_at z2 hrow (Nat.le_of_ble_eq_true hks)
    exact OpS.mload ho hx (hT.lay hlay) (by rw [hr]; exact valA_app hy) C a next Q hI hρ hrd hup hk
  refine AL.op (dOk1 hd hn) hg (rd := [(id, .arr e sz ver rows)]) (up := []) (v := y) ⟨by rw [ev_lk]; exact hS, fun p hp => ?_, by simp, .inr ⟨.inr ⟨by rw [ho]; rfl, fun p hp => ⟨x, by rw [ho]; simp [Op.operands], .inr ⟨ver, .cell (q * sz + k0), ?_⟩⟩⟩, .inl rfl⟩, hc.col⟩ ?_
  · simp only [List.mem_singleton] at hp; subst hp; exact hH
  · simp only [List.mem_singleton] at hp; subst hp; rw [ev_lk]; exact hx
  · unfold St.step
    rw [hd, lk_pt]
    exact k
/-- A store into an array. -/
theorem AL.mst (hd : o.dst = none) (hg : gdec ops (lk E) o = some true) {ty : TypeId} {x y : Operand} (ho : o.op = .store ty x y) {q k0 : Nat} (hx : evE E x = some (.mv id ver (.cell (q * sz + k0)))) {v : AV} (hy : evE E y = some v) {l : List AV} (hl : cellsA v = some l) {g : Bool} {m : Nat} (hlay : gt T.lay ty = some (g, m)) (hlm : Nat.beq l.length m = true) (hH : lk H id = some (.arr e sz ver rows)) {row : List AV} (hrow : rows[q]? = some row) (hks : Nat.ble (k0 + l.length) sz = true) (hb : (M i).b = true) {rows2 : List (List AV)} (hr : rows.set q (spl row k0 l) = rows2)
    (hc : ColN M i (lk H) [(id, .arr e sz ver rows)] [(id, .arr e sz ver rows2)]) (k : AL P ops M rest (i + 1) (mkS n E ((id, .arr e sz ver rows2) :: H)) Q) : AL P ops M (o :: rest) i (mkS n E H) Q := by
  subst hr
  have e1 := Nat.eq_of_beq_eq_true hlm
  have h3 := Nat.le_of_ble_eq_true hks
  have hS : OpS P o (evE E) [(id, .arr e sz ver rows)] [(id, .arr e sz ver (rows.set q (spl row k0 l)))] .undef := by
    intro C a next Q hI hρ hrd hup hk
    obtain ⟨_, _, _, _, z2, _⟩ := arr_at hI (hρ x (by rw [ho]; simp [Op.operands]) _ hx) (hrd (id, .arr e sz ver rows) (by simp)).1
    have hlt : q < rows.length := (List.getElem?_eq_some_iff.1 hrow).1
    have h2 : (q + 1) * sz ≤ rows.length * sz := Nat.mul_le_mul_right _ hlt
    rw [Nat.add_mul] at h2
    refine OpS.mstore ho hx hy hl (by rw [e1]; exact hT.lay hlay) (rows' := rows.set q (spl row k0 l)) (by simp) (fun r hr => ?_) (flat_set k0 l z2 hrow h3) (by omega) C a next Q hI hρ hrd hup hk
    rcases List.mem_or_eq_of_mem_set hr with h | h
    · exact z2 r h
    · rw [h]
      have := z2 row (List.mem_of_getElem? hrow)
      simp only [spl, List.length_append, List.length_take, List.length_drop]
      omega
  refine AL.op (fun d h => by rw [hd] at h; cases h) hg (rd := [(id, .arr e sz ver rows)]) (up := [(id, .arr e sz ver (rows.set q (spl row k0 l)))]) (v := .undef) ⟨by rw [ev_lk]; exact hS, fun p hp => ?_, fun p hp => ?_, .inl hb, hc.col⟩ ?_
  · simp only [List.mem_singleton] at hp; subst hp; exact hH
  · simp only [List.mem_singleton] at hp; subst hp; exact .inl ⟨_, List.mem_singleton.2 rfl⟩
  · unfold St.step
    rw [hd, updL_lk]
    exact k
/-- Rows of an array, put into an empty row of the call's own. -/
theorem AL.avw {d : Nat} (hd : o.dst = some d) (hn : Nat.blt d n = true) (hg : gdec ops (lk E) o = some true) {ty : TypeId} {s x : Operand} (ho : o.op = .call { callee := .builtin .append, args := #[s, x], argTypes := #[ty, ty] }) {e1 : TypeId} (he : gt T.elm ty = some (e1, sz)) {z : List AV} (hz : gt T.zr e1 = some z) (hzl : Nat.beq z.length sz = true) {by_ : Nat} (hby : gt T.byt e1 = some by_) {id1 lo m : Nat} {nn : Bool}
    (hs : evE E s = some (.sl (.own id1) sz [])) (hx : evE E x = some (.mv id ver (.view lo m nn))) (hH1 : lk H id1 = some (.row e1 sz 0)) (hH : lk H id = some (.arr e sz ver rows)) (hln : lo + m ≤ rows.length) (hl : m ≤ 1000000) (hbb : Nat.ble by_ 1000000 = true) (hb : (M i).b = true)
    (hc : ∀ up, (∀ p ∈ up, p.1 = id1) → ColN M i (lk H) [(id1, .row e1 sz 0), (id, .arr e sz ver rows)] up ∧ ColN M i (lk H) [(id, .arr e sz ver rows)] []) (k : AL P ops M rest (i + 1) (mkS n ((d, .sl (.own id1) sz ((rows.drop lo).take m)) :: E) ((id1, .row e1 sz m) :: H)) Q) : AL P ops M (o :: rest) i (mkS n E H) Q := by
  by_cases h0 : m = 0
  · subst h0
    rw [List.take_zero] at k
    have key : mkS n ((d, .sl (.own id1) sz []) :: E) ((id1, .row e1 sz 0) :: H) = mkS n ((d, .sl (.own id1) sz []) :: E) H := by
      unfold mkS
      congr 1
      rw [lk_cons]
      funext j
      simp only [upd]
      split
      · rename_i q; rw [q, hH1]
      · rfl
    rw [key] at k
    refine AL.op (dOk1 hd hn) hg (rd := [(id, .arr e sz ver rows)]) (up := []) (v := .sl (.own id1) sz []) ⟨by rw [ev_lk]; exact OpS.appV0 ho (hT.elm he) hs hx, fun p hp => ?_, by simp, .inl hb, (hc [] (by simp)).2.col⟩ ?_
    · simp only [List.mem_singleton] at hp; subst hp; exact hH
    · unfold St.step
      rw [hd, lk_pt]
      exact k
  · have h1 := Nat.le_of_ble_eq_true hbb
    have h2 : m * by_ ≤ 1000000 * 1000000 := Nat.mul_le_mul hl h1
    have hS := OpS.appV (P := P) (o := o) (ρ := evE E) ho (hT.elm he) (hT.zr hz) (Nat.eq_of_beq_eq_true hzl) (hT.byt hby) hs hx h0 hln (by simp only [List.length_nil, Nat.zero_add]; omega) (by simp only [List.length_nil, Nat.zero_add]; omega) (e := e)
    simp only [List.length_nil, Nat.zero_add, List.nil_append] at hS
    refine AL.op (dOk1 hd hn) hg (rd := [(id1, .row e1 sz 0), (id, .arr e sz ver rows)]) (up := [(id1, .row e1 sz m)]) (v := .sl (.own id1) sz ((rows.drop lo).take m)) ⟨by rw [ev_lk]; exact hS, fun p hp => ?_, fun p hp => ?_, .inl hb, (hc _ (by simp)).1.col⟩ ?_
    · simp only [List.mem_cons, List.not_mem_nil, or_false] at hp
      rcases hp with rfl | rfl
      · exact hH1
      · exact hH
    · simp only [List.mem_singleton] at hp; subst hp; exact .inl ⟨_, List.mem_cons_self⟩
    · unfold St.step
      rw [hd, lk_pt, updL_lk]
      exact k
end
theorem ACallH.alt {P : Program} {f : FuncId} {args args1 args2 : List AV} {rd up : List (Nat × AObj)} {res : AV} (h1 : ACallH P f args1 rd up res) (h2 : ACallH P f args2 rd up res)
    (hs : ∀ (C : Cx) (vs : List Value), Inv C → (∀ p ∈ rd, C.H p.1 = some p.2 ∧ ∃ u, C.G p.1 = some u) → RdL C args vs → RdL C args1 vs ∨ RdL C args2 vs) : ACallH P f args rd up res := fun C vs hI hC ha => by
  rcases hs C vs.toList hI hC ha with h | h
  · exact h1 C vs hI hC h
  · exact h2 C vs hI hC h
/-- Rows that are looked at: nil, or not. -/
theorem view_alt {C : Cx} {id ver lo n sz : Nat} {e : TypeId} {rows : List (List AV)} (hI : Inv C) (hC : C.H id = some (.arr e sz ver rows)) {v : Value} (h : Rd C (.mv id ver (.view lo n false)) v) : (n = 0 ∧ Rd C (.sl .nil sz []) v) ∨ Rd C (.mv id ver (.view lo n true)) v := by
  obtain ⟨g, g1, g2, g3⟩ := arr_at hI h hC
  obtain ⟨q1, A, c, rfl, q2, q3, q4⟩ := g2
  cases A with
  | none =>
    left
    have hn : n = 0 := by
      rcases q3 with q3 | ⟨b, c', _, q3⟩
      · exact q3
      · cases q3
    subst hn
    refine ⟨rfl, ?_⟩
    rw [q4 rfl]
    simp only [Rd]
    exact ⟨none, 0, rfl, Nat.le_refl _, by simp, .inl trivial, trivial⟩
  | some a =>
    right
    simp only [Rd] at h ⊢
    exact ⟨⟨_, _, _, rfl, by simp⟩, h.2⟩
/-! ### new objects, what they touch told -/
section
variable {P : Program} {T : TI} (hT : T.Good P) {ops : Array Oper} {M : Nat → Mk} {o : Oper} {rest : List Oper} {i n : Nat} {E : List (Nat × AV)} {H : List (Nat × AObj)} {Q : St → Prop}
include hT
theorem AL.newObjC {d : Nat} (hd : o.dst = some d) (hn : Nat.blt d n = true) (hg : gdec ops (lk E) o = some true) (id : Nat) (hid : lk H id = none) {ob : AObj} {v : AV} (hnw : isNew o.op = true) (h : OpS P o (evE E) [] [(id, ob)] v)
    (hc : ColN M i (lk H) [] [(id, ob)]) (k : AL P ops M rest (i + 1) (mkS n ((d, v) :: E) ((id, ob) :: H)) Q) : AL P ops M (o :: rest) i (mkS n E H) Q := by
  refine AL.op (dOk1 hd hn) hg (rd := []) (up := [(id, ob)]) (v := v) ⟨by rw [ev_lk]; exact h, by simp, fun p hp => ?_, .inr ⟨.inl rfl, .inr ⟨hnw, fun p hp => ?_⟩⟩, hc.col⟩ ?_
  · simp only [List.mem_singleton] at hp; subst hp; exact .inr hid
  · simp only [List.mem_singleton] at hp; subst hp; exact hid
  · unfold St.step
    rw [hd, lk_pt, updL_lk]
    exact k
theorem AL.alcC {d : Nat} (hd : o.dst = some d) (hn : Nat.blt d n = true) (hg : gdec ops (lk E) o = some true) {ty : TypeId} (ho : o.op = .alloc ty) {z : List AV} (hz : gt T.zr ty = some z) (id : Nat) (hid : lk H id = none)
    (hc : ColN M i (lk H) [] [(id, .box ty z)]) (k : AL P ops M rest (i + 1) (mkS n ((d, (.ptr id 0)) :: E) ((id, .box ty z) :: H)) Q) : AL P ops M (o :: rest) i (mkS n E H) Q :=
  AL.newObjC hT hd hn hg id hid (by rw [ho]; rfl) (OpS.alloc ho (hT.zr hz) id) hc k
theorem AL.bxC {d : Nat} (hd : o.dst = some d) (hn : Nat.blt d n = true) (hg : gdec ops (lk E) o = some true) {ty : TypeId} {x : Operand} (ho : o.op = .box ty x) {y : AV} (hy : evE E x = some y) {l : List AV} (hl : cellsA y = some l) (id : Nat) (hid : lk H id = none)
    (hc : ColN M i (lk H) [] [(id, .box ty l)]) (k : AL P ops M rest (i + 1) (mkS n ((d, (.ptr id 0)) :: E) ((id, .box ty l) :: H)) Q) : AL P ops M (o :: rest) i (mkS n E H) Q :=
  AL.newObjC hT hd hn hg id hid (by rw [ho]; rfl) (OpS.box ho hy hl id) hc k
theorem AL.litC {d : Nat} (hd : o.dst = some d) (hn : Nat.blt d n = true) (hg : gdec ops (lk E) o = some true) {ty : TypeId} {len : Nat} {parts : Array (Nat × Operand)} (ho : o.op = .buildSlice ty len parts) {e sz : Nat} (he : gt T.elm ty = some (e, sz + 1))
    {z : List AV} (hz : gt T.zr e = some z) {rows : List (List AV)} (hs : seqA (evE E) (sz + 1) 0 parts.toList = some rows) (hl : Nat.beq rows.length len = true) (hb : Nat.ble (len * (sz + 1)) 16777216 = true) (id : Nat) (hid : lk H id = none)
    (hc : ColN M i (lk H) [] [(id, .row e (sz + 1) rows.length)]) (k : AL P ops M rest (i + 1) (mkS n ((d, (.sl (.own id) (sz + 1) rows)) :: E) ((id, .row e (sz + 1) rows.length) :: H)) Q) : AL P ops M (o :: rest) i (mkS n E H) Q :=
  AL.newObjC hT hd hn hg id hid (by rw [ho]; rfl) (OpS.lit ho (hT.elm he) (Nat.succ_pos _) (hT.zr hz) hs (Nat.eq_of_beq_eq_true hl) (Nat.le_of_ble_eq_true hb) id) hc k
end
/-- A load that looks at these cells alone: it may come up before or behind what leaves them as they are. -/
theorem valA_take {g : Bool} {m : Nat} (hm : 0 < m) (a : List AV) : valA g m (a.take m) = valA g m a := by
  unfold valA
  cases g
  · simp only [Bool.false_eq_true, if_false]
    cases a with
    | nil => simp
    | cons x a => cases m with
      | zero => omega
      | succ m => simp
  · simp only [if_true, List.length_take, List.take_take, Nat.min_self]
    by_cases h : m ≤ a.length
    · rw [if_pos (by omega), if_pos h]
    · rw [if_neg (by omega), if_neg h]
theorem AL.vl {P : Program} {T : TI} (hT : T.Good P) {ops : Array Oper} {M : Nat → Mk} {o : Oper} {rest : List Oper} {i n : Nat} {E : List (Nat × AV)} {H : List (Nat × AObj)} {Q : St → Prop} {d : Nat} (hd : o.dst = some d) (hn : Nat.blt d n = true) (hg : gdec ops (lk E) o = some true) {ty : TypeId} {x : Operand} (ho : o.op = .load ty x) {id off : Nat} (hx : evE E x = some (.ptr id off)) {g : Bool} {m : Nat} (hlay : gt T.lay ty = some (g, m)) (hm : Nat.blt 0 m = true) {t : TypeId} {cells : List AV} (hH : lk H id = some (.box t cells)) {v : AV} (hv : valA g m (cells.drop off) = some v)
    {l : Col} (hl : (M i).c = some l) (hlk : l.lk = some (id, off, m)) (hid : l.ids = [id]) (hkp : l.kp = []) (k : AL P ops M rest (i + 1) (mkS n ((d, v) :: E) H) Q) : AL P ops M (o :: rest) i (mkS n E H) Q := by
  have hm := Nat.le_of_ble_eq_true hm
  have key : ∀ (H' : Nat → Option AObj) (cells' : List AV), H' id = some (.box t cells') → valA g m (cells'.drop off) = some v → OpS P o (evE E) [(id, .box t cells')] [] v := fun H' cells' h1 h2 =>
    aval_sound (H := H') hT.toOk (by rw [ho]; simp only [aval, hlay, hx, h1, h2]; rfl)
  refine AL.op (dOk1 hd hn) hg (rd := [(id, .box t cells)]) (up := []) (v := v) ⟨by rw [ev_lk]; exact key _ _ hH hv, fun p hp => ?_, by simp, .inr ⟨.inr ⟨by rw [ho]; rfl, fun p hp => ⟨x, by rw [ho]; simp [Op.operands], .inl ⟨off, ?_⟩⟩⟩, .inl rfl⟩, fun l' q => ?_⟩ ?_
  · simp only [List.mem_singleton] at hp; subst hp; exact hH
  · simp only [List.mem_singleton] at hp; subst hp; rw [ev_lk]; exact hx
  · rw [hl] at q
    injection q with q
    subst q
    refine ⟨by rw [hid]; simp, by simp, fun q hq => ?_, fun q hq => by rw [hkp] at hq; cases hq⟩
    rw [hlk] at hq
    injection hq with hq
    subst hq
    refine ⟨rfl, ⟨_, List.mem_singleton.2 rfl, rfl⟩, fun H' hH' => ?_⟩
    have h0 : cellsAt (mkS n E H).H (id, off, m) = some (t, cells.length, (cells.drop off).take m) := by
      show cellsAt (lk H) _ = _
      simp only [cellsAt, hH]
    rw [h0] at hH'
    simp only [cellsAt] at hH'
    split at hH'
    · rename_i t' cells' h1
      injection hH' with hH'
      injection hH' with e1 hH'
      injection hH' with e2 e3
      subst e1
      refine ⟨[(id, .box t' cells')], rfl, by rw [ev_lk]; exact key H' cells' h1 (by rw [← valA_take hm, e3, valA_take hm]; exact hv), fun p hp => ?_⟩
      simp only [List.mem_singleton] at hp
      subst hp
      exact h1
    · cases hH'
  · unfold St.step
    rw [hd, lk_pt]
    exact k
/-! ### results -/
theorem wk_mv {H : Nat → Option AObj} {id ver : Nat} {e : TypeId} {sz : Nat} {rows rows' : List (List AV)} (h : H id = some (.arr e sz ver rows)) (hp : puR rows = rows') : Wk (fz H (.mv id ver .hdr)) (.sl .ro sz rows') := by
  have e1 : fz H (.mv id ver .hdr) = .sl .ro sz (puR rows) := by simp only [fz, h, if_true]
  rw [e1, hp]
  exact Wk.refl _
theorem wk_own {H : Nat → Option AObj} {id sz : Nat} {rows : List (List AV)} (hp : pureR rows = true) : Wk (fz H (.sl (.own id) sz rows)) (.sl .ro sz rows) := by
  have e1 : fz H (.sl (.own id) sz rows) = .sl .ro sz rows := by simp only [fz, fzR_pure H rows hp]
  rw [e1]
  exact Wk.refl _
theorem wk_pure {H : Nat → Option AObj} {x : AV} (hp : pureA x = true) : Wk (fz H x) x := by
  rw [fz_pure _ _ hp]
  exact Wk.refl x
/-! ### functions that hand back a row of their own: it is the caller's own then -/
def ACallN (P : Program) (f : FuncId) (args : List AV) (id : Nat) (ob : AObj) (res : AV) : Prop :=
  ∀ (C : Cx) (vs : Array Value), Inv C → C.H id = none → RdL C args vs.toList →
    Calls P f vs C.w fun e w' => ∃ v C', e = .returned v ∧ C'.w = w' ∧ Inv C' ∧ Le C C' ∧ C'.w0 = C.w0 ∧ C'.ok0 = C.ok0 ∧ C'.H = updL C.H [(id, ob)] ∧ (∀ id u, C.G id = some u → ∃ u', C'.G id = some u') ∧ (∃ u, C'.G id = some u) ∧ Rd C' res v
def RetN (P : Program) (fn : Func) (e0 sz : Nat) (rows : List (List AV)) (e : Exit) (s : St) : Prop :=
  (e = .normal ∨ e = .ret) ∧ ∃ k, ResA P fn s (.sl (.own k) sz rows) ∧ s.H k = some (.row e0 sz rows.length)

theorem ACallN.body {P : Program} {f : FuncId} {fn : Func} {c : Code} {args : List AV} {e0 sz : Nat} {rows : List (List AV)} (hf : P.funcs[f]? = some fn) (hb : fn.body = some c) (hn : args.length ≤ fn.ntmps) (ha : pureL args = true) (hp : pureR rows = true)
    (h : AW P (fun _ => false) c (RetN P fn e0 sz rows) ⟨fn.ntmps, argE args, fun _ => none⟩) (id : Nat) : ACallN P f args id (.row e0 sz rows.length) (.sl (.own id) sz rows) := by
  intro C vs hI hid hargs
  refine calls_of_wp hf hb ?_
  have hrel := enter_rel (inv_pu C.ok C.w) (pureL_in ha hargs) hn (fun id o h => by cases h)
  have h' := h (Pu C.ok C.w) _ hrel
  refine wp_mono h' (fun e a w' hl => ?_)
  obtain ⟨s', D, q, r, rfl, e0', e1, l⟩ := hl
  obtain ⟨he, k, hres, hk⟩ := q
  obtain ⟨u, h1, h2⟩ := hres D a r
  have hDH : D.H k = some (.row e0 sz rows.length) := by rw [r.H]; exact hk
  have hDG : D.G k = some u := by
    have h3 := h2
    simp only [Rd] at h3
    obtain ⟨A, cp, _, _, _, _, e4, sz4, m, t1, t2, t3⟩ := h3
    rw [hDH] at t1
    injection t1 with t1
    injection t1 with _ _ t1
    exact t3 t1
  have hw0 : D.w0 = C.w := e0'
  have hbel : Below C.w.heap.size C.w D.w := by have := r.inv.below; rw [hw0] at this; exact this
  have hub : ∀ b, blk u = some b → C.w.heap.size ≤ b ∧ b < D.w.heap.size := fun b hb => by
    obtain ⟨o, k1, k2⟩ := r.inv.obj k u hDG
    have := Held.blk k2 hb
    rw [hw0] at this
    exact this
  have hG0 : C.G id = none := by
    cases q : C.G id with
    | none => rfl
    | some v => obtain ⟨o, k1, _⟩ := hI.obj id v q; rw [hid] at k1; cases k1
  let C' : Cx := ⟨C.w0, C.ok0, upd C.H id (.row e0 sz rows.length), upd C.G id u, D.w⟩
  have hne : ∀ id', id' ≠ id → C'.H id' = C.H id' ∧ C'.G id' = C.G id' := fun id' q => ⟨upd_ne _ _ q, upd_ne _ _ q⟩
  have hGi : C'.G id = some u := upd_same _ _ _
  have hHi : C'.H id = some (.row e0 sz rows.length) := upd_same _ _ _
  have hold : ∀ id' v b, C.G id' = some v → blk v = some b → b < C.w.heap.size := fun id' v b q1 q2 => (hI.blk_lt q1 q2).2
  have hle : Le C C' := by
    refine ⟨fun b j u' k1 k2 => ⟨⟨k1.1, fun id' v' k3 k4 => ?_⟩, (cell_eq (hbel.block b (cell_lt k2))).trans k2⟩, fun id' b q => ?_, fun id' m v q => ?_, fun id' m z v q => ?_, hbel.size, fun b hb q => ⟨hbel.block b hb, fun id' v' k3 k4 => ?_⟩⟩
    · by_cases e' : id' = id
      · subst e'
        rw [hGi] at k3
        injection k3 with k3
        subst k3
        have := (hub b k4).1
        have := cell_lt k2
        omega
      · rw [(hne id' e').2] at k3
        rw [(hne id' e').1]
        exact k1.2 id' v' k3 k4
    · have e' : id' ≠ id := fun e' => by subst e'; rw [hG0] at q; cases q
      rw [(hne id' e').2]; exact q
    · obtain ⟨e1, sz1, m1, t1, t2, t3⟩ := q
      have e' : id' ≠ id := fun e' => by subst e'; rw [hid] at t1; cases t1
      exact ⟨e1, sz1, m1, by rw [(hne id' e').1]; exact t1, t2, fun z => by rw [(hne id' e').2]; exact t3 z⟩
    · obtain ⟨sh, e1, sz1, m1, rs, t1, t2, t3⟩ := q
      have e' : id' ≠ id := fun e' => by subst e'; rw [hid] at t1; cases t1
      exact ⟨sh, e1, sz1, m1, rs, by rw [(hne id' e').1]; exact t1, t2, fun z => by rw [(hne id' e').2]; exact t3 z⟩
    · by_cases e' : id' = id
      · subst e'
        rw [hGi] at k3
        injection k3 with k3
        subst k3
        have := (hub b k4).1
        omega
      · rw [(hne id' e').2] at k3
        exact q id' v' k3 k4
  have hI' : Inv C' := by
    refine ⟨hI.below.trans ⟨hbel.os, hbel.tape, hbel.output, hbel.size, fun k hk => hbel.block k (Nat.lt_of_lt_of_le hk hI.below.size)⟩, fun id' v q => ?_, fun id1 id2 v1 v2 b q1 q2 q3 q4 => ?_, fun b j q => hI.fresh b j (Nat.le_trans hbel.size q), fun id' v b q1 q2 j => ?_⟩
    · by_cases e' : id' = id
      · subst e'
        rw [hGi] at q
        injection q with q
        subst q
        obtain ⟨o, k1, k2⟩ := r.inv.obj k u hDG
        rw [hDH] at k1
        injection k1 with k1
        subst k1
        obtain ⟨z1, xs, z2⟩ := k2
        refine ⟨_, hHi, z1, xs, z2.1, ?_⟩
        rcases z2.2 with z3 | ⟨g, cap, cur, rfl, z4, z5⟩
        · exact .inl z3
        · right
          rw [hw0] at z4
          exact ⟨g, cap, cur, rfl, Nat.le_trans hI.below.size z4, z5⟩
      · rw [(hne id' e').2] at q
        obtain ⟨o, k1, k2⟩ := hI.obj id' v q
        exact ⟨o, by rw [(hne id' e').1]; exact k1, Held.kept hle rfl k2 fun b q2 => hbel.block b (Held.blk k2 q2).2⟩
    · by_cases e1 : id1 = id <;> by_cases e2 : id2 = id
      · rw [e1, e2]
      · subst e1
        rw [hGi] at q1
        injection q1 with q1
        subst q1
        rw [(hne id2 e2).2] at q2
        have := hold _ _ _ q2 q4
        have := (hub b q3).1
        omega
      · subst e2
        rw [hGi] at q2
        injection q2 with q2
        subst q2
        rw [(hne id1 e1).2] at q1
        have := hold _ _ _ q1 q3
        have := (hub b q4).1
        omega
      · rw [(hne id1 e1).2] at q1
        rw [(hne id2 e2).2] at q2
        exact hI.apart id1 id2 v1 v2 b q1 q2 q3 q4
    · by_cases e' : id' = id
      · subst e'
        rw [hGi] at q1
        injection q1 with q1
        subst q1
        exact hI.fresh b j (hub b q2).1
      · rw [(hne id' e').2] at q1
        exact hI.okG id' v b q1 q2 j
  have hl0 : Le0 D C' (fun _ => false) := Le0.ofOk fun b j u' k1 k2 => by
    refine ⟨?_, k2⟩
    have k3 := k1.1
    rw [e1] at k3
    rcases Nat.lt_or_ge b C.w.heap.size with hb | hb
    · have k4 : C.ok b j := k3 hb
      refine ⟨k4.1, fun id' v' q1 q2 => ?_⟩
      by_cases e' : id' = id
      · subst e'
        rw [hGi] at q1
        injection q1 with q1
        subst q1
        have := (hub b q2).1
        omega
      · rw [(hne id' e').2] at q1
        rw [(hne id' e').1]
        exact k4.2 id' v' q1 q2
    · refine ⟨hI.fresh b j hb, fun id' v' q1 q2 => ?_⟩
      by_cases e' : id' = id
      · subst e'
        rw [hGi] at q1
        injection q1 with q1
        subst q1
        obtain ⟨e5, sz5, n5, k5, k6⟩ := k1.2 k u hDG q2
        rw [hDH] at k5
        exact ⟨e5, sz5, n5, by rw [hHi]; exact k5, k6⟩
      · rw [(hne id' e').2] at q1
        have := hold _ _ _ q1 q2
        omega
  have hres' : Rd C' (.sl (.own id) sz rows) u := by
    have h3 := h2
    simp only [Rd] at h3 ⊢
    obtain ⟨A, cp, k1, k2, k3, k4, _⟩ := h3
    refine ⟨A, cp, k1, k2, k3, ?_, e0, sz, rows.length, hHi, Nat.le_refl _, fun _ => hGi⟩
    rcases k4 with k4 | ⟨b, off, k5, k6⟩
    · exact .inl k4
    · exact .inr ⟨b, off, k5, RdR.mono hl0 sz rows b off hp k6⟩
  have hG : ∀ id' u', C.G id' = some u' → ∃ u2, C'.G id' = some u2 := fun id' u' q => by
    by_cases e' : id' = id
    · subst e'; exact ⟨_, hGi⟩
    · exact ⟨u', by rw [(hne id' e').2]; exact q⟩
  rcases he with rfl | rfl
  · exact ⟨r.defers, u, h1, u, C', rfl, rfl, hI', hle, rfl, rfl, rfl, hG, ⟨u, hGi⟩, hres'⟩
  · exact ⟨r.defers, u, h1, u, C', rfl, rfl, hI', hle, rfl, rfl, rfl, hG, ⟨u, hGi⟩, hres'⟩

theorem ACallN.go {P : Program} {f : FuncId} {fn : Func} {c : Code} {args : List AV} {e0 sz : Nat} {rows : List (List AV)} {n : Nat} (E : List (Nat × AV)) (hf : P.funcs[f]? = some fn) (hb : fn.body = some c) (hn : fn.ntmps = n) (hE : (List.range args.length).zip args = E) (hl : Nat.ble args.length n = true) (ha : pureL args = true) (hp : pureR rows = true)
    (h : AW P (fun _ => false) c (RetN P fn e0 sz rows) (mkS n E [])) (id : Nat) : ACallN P f args id (.row e0 sz rows.length) (.sl (.own id) sz rows) := by
  subst hn hE
  refine ACallN.body hf hb (Nat.le_of_ble_eq_true hl) ha hp ?_ id
  rw [argE_lk]
  exact h
theorem RetN.w {P : Program} {T : TI} (hT : T.Good P) {fn : Func} {e : Exit} {rs : List ResultVar} {n : Nat} {E : List (Nat × AV)} {H : List (Nat × AObj)} {k e0 sz : Nat} {rows0 rows : List (List AV)} (he : e = .normal ∨ e = .ret) (hr : fn.results.toList = rs) (h : resL T E H rs = some [.sl (.own k) sz rows0]) (hw : WvR rows0 rows)
    (hH : lk H k = some (.row e0 sz rows.length)) : RetN P fn e0 sz rows e (mkS n E H) :=
  ⟨he, k, (ResA.of hT hr h).weak (y := .sl (.own k) sz rows) (show Wv (.sl (.own k) sz rows0) (.sl (.own k) sz rows) from ⟨.inl rfl, hw, .inl rfl⟩), hH⟩
/-- A call of such a function. -/
theorem AL.clF {P : Program} {T : TI} (hT : T.Good P) {ops : Array Oper} {M : Nat → Mk} {o : Oper} {rest : List Oper} {i n : Nat} {E : List (Nat × AV)} {H : List (Nat × AObj)} {Q : St → Prop} {d : Nat} (hd : o.dst = some d) (hn : Nat.blt d n = true) (hg : gdec ops (lk E) o = some true) {cf : Operand} {args : Array Operand} {tys : Array TypeId} (ho : o.op = .call { callee := .value cf, args := args, argTypes := tys }) {f : FuncId} {first caps : List AV}
    (hf : evE E cf = some (.func f first caps)) (hc : gt T.fns f = some true) {aw : List AV} (ha : listA (evE E) args.toList = some aw) {xs : List AV} (id : Nat) (hid : lk H id = none) {ob : AObj} {res : AV} (h : ACallN P f xs id ob res) (hx : WvL (first ++ aw ++ caps) xs) (hm : (M i).b = true) (hcol : ColN M i (lk H) [] [(id, ob)])
    (k : AL P ops M rest (i + 1) (mkS n ((d, res) :: E) ((id, ob) :: H)) Q) : AL P ops M (o :: rest) i (mkS n E H) Q := by
  have hS : OpS P o (evE E) [] [(id, ob)] res := by
    intro C a next Q hI hρ hrd hup hk
    obtain ⟨m1, m2⟩ := mem_call ho
    have q := hρ cf m1 _ hf
    simp only [Rd] at q
    obtain ⟨vs, us, q0, q1, q2⟩ := q
    have qa := listA_rd (C := C) (a := a) ha (fun x hx => hρ x (m2 x hx))
    unfold Oper.wp
    rw [run_call (C := C) ho q0 (hT.fns hc), Oper.upon_enter]
    have hH : C.H id = none := by
      have := hup (id, ob) (by simp)
      simpa using this
    have hall : RdL C xs (vs ++ args.map a.eval ++ us).toList := by
      refine WvL.rd _ _ _ hx ?_
      simp only [Array.toList_append, Array.toList_map]
      exact (q1.append qa).append q2
    refine (h C _ hI hH hall).mono fun e w' hr => ?_
    obtain ⟨v, C', rfl, rfl, hI', hle, e0, e1, e2, hG, hG2, hv⟩ := hr
    refine hk C' v hI' hle e0 e1 e2 hG (fun p hp => ?_) hv
    simp only [List.mem_singleton] at hp; subst hp; exact hG2
  refine AL.op (dOk1 hd hn) hg (rd := []) (up := [(id, ob)]) (v := res) ⟨by rw [ev_lk]; exact hS, by simp, fun p hp => ?_, .inl hm, hcol.col⟩ ?_
  · simp only [List.mem_singleton] at hp; subst hp; exact .inr hid
  · unfold St.step
    rw [hd, lk_pt, updL_lk]
    exact k
/-- A row of the call's own gets another number; of the rest what is told is kept. -/
theorem AW.ren {P : Program} {S : Nat → Bool} {Q : Exit → St → Prop} {c : Code} {n : Nat} {E : List (Nat × AV)} {H : List (Nat × AObj)} (j2 j d : Nat) {e sz : Nat} {rows : List (List AV)} (hd : lk E d = some (.sl (.own j2) sz rows)) (hj2 : lk H j2 = some (.row e sz rows.length)) (E0 : List (Nat × AV)) (H0 : List (Nat × AObj))
    (hE : ∀ p ∈ E0, lk E p.1 = some p.2 ∧ inA (idsIn H0) p.2 = true) (hH : ∀ p ∈ H0, lk H p.1 = some p.2 ∧ inO (idsIn H0) p.2 = true) (hj : idsIn H0 j = false) (hj3 : idsIn H0 j2 = false) (hS : ∀ id, S id = true → idsIn H0 id = true) (hp : inR (idsIn H0) rows = true)
    (k : AW P S c Q (mkS n ((d, .sl (.own j) sz rows) :: E0) ((j, .row e sz rows.length) :: H0))) : AW P S c Q (mkS n E H) := fun C a hr => by
  let C' : Cx := ⟨C.w0, C.ok0, lk ((j, .row e sz rows.length) :: H0), fun id => if id = j then C.G j2 else if idsIn H0 id = true then C.G id else none, C.w⟩
  have hCH : ∀ id, C.H id = lk H id := fun id => congrFun hr.H id
  have hHj : C'.H j = some (.row e sz rows.length) := by show lk ((j, AObj.row e sz rows.length) :: H0) j = _; rw [lk_cons, upd_same]
  have hGj : C'.G j = C.G j2 := if_pos rfl
  have hne : ∀ id, idsIn H0 id = true → id ≠ j := fun id q e => by subst e; rw [hj] at q; cases q
  have hH0 : ∀ id, idsIn H0 id = true → C'.H id = C.H id := fun id q => by
    obtain ⟨o, ho⟩ := idsIn_iff.1 q
    obtain ⟨o', ho'⟩ := lk_some ho
    show lk _ id = _
    rw [lk_cons, upd_ne _ _ (hne id q), hCH, ho']
    exact ((hH _ (lk_mem ho')).1).symm
  have hG0 : ∀ id, idsIn H0 id = true → C'.G id = C.G id := fun id q => by
    show (if id = j then _ else if idsIn H0 id = true then C.G id else none) = _
    rw [if_neg (hne id q), if_pos q]
  have hG : ∀ id v, C'.G id = some v → (id = j ∧ C.G j2 = some v) ∨ (idsIn H0 id = true ∧ C.G id = some v) := fun id v q => by
    have q : (if id = j then C.G j2 else if idsIn H0 id = true then C.G id else none) = some v := q
    by_cases e1 : id = j
    · rw [if_pos e1] at q; exact .inl ⟨e1, q⟩
    · rw [if_neg e1] at q
      split at q
      · rename_i h; exact .inr ⟨h, q⟩
      · cases q
  have hCj2 : C.H j2 = some (.row e sz rows.length) := by rw [hCH]; exact hj2
  have hok : ∀ b i, C.ok b i → C'.ok b i := fun b i q => ⟨q.1, fun id v q1 q2 => by
    rcases hG id v q1 with ⟨rfl, q3⟩ | ⟨q3, q4⟩
    · obtain ⟨e1, s1, n1, k1, k2⟩ := q.2 j2 v q3 q2
      rw [hCj2] at k1
      exact ⟨e1, s1, n1, by rw [hHj]; exact k1, k2⟩
    · obtain ⟨e1, s1, n1, k1, k2⟩ := q.2 id v q4 q2
      exact ⟨e1, s1, n1, by rw [hH0 id q3]; exact k1, k2⟩⟩
  have htag : ∀ id, idsIn H0 id = true → ∀ m v, TagP C id m v → TagP C' id m v := fun id q m v ⟨e1, s1, m1, t1, t2, t3⟩ => ⟨e1, s1, m1, by rw [hH0 id q]; exact t1, t2, fun z => by rw [hG0 id q]; exact t3 z⟩
  have harr : ∀ id, idsIn H0 id = true → ∀ m z v, ArrP C id m z v → ArrP C' id m z v := fun id q m z v ⟨sh, e1, s1, m1, rs, t1, t2, t3⟩ => ⟨sh, e1, s1, m1, rs, by rw [hH0 id q]; exact t1, t2, fun z => by rw [hG0 id q]; exact t3 z⟩
  have hl : Le0 C C' (idsIn H0) := ⟨fun b i u k1 k2 => ⟨hok b i k1, k2⟩, fun id q b z => by rw [hG0 id q]; exact z, htag, harr⟩
  have hls : LeS S C C' := ⟨fun b i u k1 k2 => ⟨hok b i k1, k2⟩, fun id q b z => by rw [hG0 id (hS id q)]; exact z, fun id q => htag id (hS id q), fun id q => harr id (hS id q), Nat.le_refl _, fun b _ q => ⟨rfl, fun id v q1 => (hG id v q1).elim (fun z => q j2 v z.2) (fun z => q id v z.2)⟩⟩
  have hI : Inv C' := by
    refine ⟨hr.inv.below, fun id v q => ?_, fun id1 id2 v1 v2 b q1 q2 q3 q4 => ?_, hr.inv.fresh, fun id v b q1 q2 => ?_⟩
    · rcases hG id v q with ⟨rfl, q3⟩ | ⟨q3, q4⟩
      · obtain ⟨o, k1, k2⟩ := hr.inv.obj j2 v q3
        rw [hCj2] at k1
        injection k1 with k1
        subst k1
        exact ⟨_, hHj, k2⟩
      · obtain ⟨o, k1, k2⟩ := hr.inv.obj id v q4
        refine ⟨o, by rw [hH0 id q3]; exact k1, ?_⟩
        have hino : inO (idsIn H0) o = true := by
          obtain ⟨o1, ho1⟩ := idsIn_iff.1 q3
          obtain ⟨o', ho'⟩ := lk_some ho1
          have h1 := hH _ (lk_mem ho')
          rw [hCH] at k1
          have h2 := h1.1
          simp only at h2
          rw [k1] at h2
          injection h2 with h2
          rw [h2]
          exact h1.2
        cases o with
        | box t cells =>
          obtain ⟨b, cs, m1, m2, m3, m4, m5⟩ := k2
          exact ⟨b, cs, m1, m2, m3, RdL.mono hl _ _ hino m4, m5⟩
        | row e1 s1 n1 => exact k2
        | arr e1 s1 ver rs =>
          obtain ⟨z1, z2, xs, z3, z4, z5⟩ := k2
          exact ⟨z1, z2, xs, z3, RdL.mono hl _ _ (inR_flat hino) z4, z5⟩
    · rcases hG id1 v1 q1 with ⟨e1, k1⟩ | ⟨e1, k1⟩ <;> rcases hG id2 v2 q2 with ⟨e2, k2⟩ | ⟨e2, k2⟩
      · rw [e1, e2]
      · have := hr.inv.apart j2 id2 v1 v2 b k1 k2 q3 q4
        rw [← this, hj3] at e2
        cases e2
      · have := hr.inv.apart id1 j2 v1 v2 b k1 k2 q3 q4
        rw [this, hj3] at e1
        cases e1
      · exact hr.inv.apart id1 id2 v1 v2 b k1 k2 q3 q4
    · rcases hG id v q1 with ⟨_, k1⟩ | ⟨_, k1⟩
      · exact hr.inv.okG j2 v b k1 q2
      · exact hr.inv.okG id v b k1 q2
  refine wp_mono (k C' a ⟨hI, rfl, fun id o q => ?_, fun d' v q => ?_, hr.size, hr.defers⟩) (fun e a w z => Lift.later z rfl rfl hls)
  · by_cases e1 : id = j
    · subst e1
      obtain ⟨u, hu⟩ := hr.real j2 _ hj2
      exact ⟨u, by rw [hGj]; exact hu⟩
    · have q : lk ((j, AObj.row e sz rows.length) :: H0) id = some o := q
      rw [lk_cons, upd_ne _ _ e1] at q
      have h1 := hH _ (lk_mem q)
      obtain ⟨u, hu⟩ := hr.real id o h1.1
      exact ⟨u, by rw [hG0 id (idsIn_iff.2 ⟨o, lk_mem q⟩)]; exact hu⟩
  · have q : lk ((d, AV.sl (.own j) sz rows) :: E0) d' = some v := q
    rw [lk_cons] at q
    by_cases e1 : d' = d
    · subst e1
      rw [upd_same] at q
      injection q with q
      subst q
      have h3 := hr.env d' _ hd
      simp only [Rd] at h3 ⊢
      obtain ⟨A, cp, k1, k2, k3, k4, e4, sz4, m, t1, t2, t3⟩ := h3
      refine ⟨A, cp, k1, k2, k3, ?_, e, sz, rows.length, hHj, Nat.le_refl _, fun _ => ?_⟩
      · rcases k4 with k4 | ⟨b, off, k5, k6⟩
        · exact .inl k4
        · exact .inr ⟨b, off, k5, RdR.mono hl sz rows b off hp k6⟩
      · rw [hGj]
        rw [hCj2] at t1
        injection t1 with t1
        injection t1 with _ _ t1
        exact t3 t1
    · rw [upd_ne _ _ e1] at q
      have h1 := hE _ (lk_mem q)
      exact Rd.mono hl _ _ h1.2 (hr.env d' v h1.1)
end Go.Proofs.Ytbcjcekoonebiaa.Tl
