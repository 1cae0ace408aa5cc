/- The tree logic, part O: nil slices within variables taken for rows of the call's own. Conditions: none. -/
import Derived.Test.YtbcjcekoonebiaaTlN
set_option linter.unusedVariables false
set_option linter.unusedSimpArgs false
set_option linter.unusedSectionVars false
namespace Go.Proofs.Ytbcjcekoonebiaa.Tl
open Go Go.RowKit

/-- What a nil slice may be taken for. -/
def NilO (sz : Nat) (o : AObj) : Prop := ∃ e, o = .row e sz 0 ∨ o = .arr e sz 0 []
theorem adopt_o {C : Cx} (hI : Inv C) (id sz : Nat) (o : AObj) (ho : NilO sz o) (hsz : 0 < sz) (hH : C.H id = none) :
    Inv { C with H := upd C.H id o, G := upd C.G id (.slice none 0 0) } ∧ Le C { C with H := upd C.H id o, G := upd C.G id (.slice none 0 0) } := by
  have hG : C.G id = none := by
    cases q : C.G id with
    | none => rfl
    | some v => obtain ⟨o, h1, _⟩ := hI.obj id v q; rw [hH] at h1; cases h1
  let C' : Cx := { C with H := upd C.H id o, G := upd C.G id (.slice none 0 0) }
  have hne : ∀ id', id' ≠ id → C'.H id' = C.H id' ∧ C'.G id' = C.G id' := fun id' q => ⟨upd_ne _ _ q, upd_ne _ _ q⟩
  have hGi : C'.G id = some (.slice none 0 0) := upd_same _ _ _
  have hHi : C'.H id = some o := upd_same _ _ _
  have hblk : ∀ id' v b, C'.G id' = some v → blk v = some b → id' ≠ id ∧ C.G id' = some v := fun id' v b q1 q2 => by
    by_cases q : id' = id
    · subst q
      rw [hGi] at q1
      injection q1 with q1
      subst q1
      cases q2
    · exact ⟨q, by rw [← (hne id' q).2]; exact q1⟩
  have hle : Le C C' := by
    refine ⟨fun b j u h1 h2 => ⟨⟨h1.1, fun id' v q1 q2 => ?_⟩, h2⟩, fun id' b q => ?_, fun id' m v q => ?_, fun id' m z v q => ?_, Nat.le_refl _, fun b hb q => ⟨rfl, fun id' v q1 q2 => ?_⟩⟩
    · obtain ⟨k1, k2⟩ := hblk id' v b q1 q2
      rw [(hne id' k1).1]
      exact h1.2 id' v k2 q2
    · have k : id' ≠ id := fun k => by subst k; rw [hG] at q; cases q
      rw [(hne id' k).2]; exact q
    · obtain ⟨e1, sz1, m1, t1, t2, t3⟩ := q
      have k : id' ≠ id := fun k => by subst k; rw [hH] at t1; cases t1
      exact ⟨e1, sz1, m1, by rw [(hne id' k).1]; exact t1, t2, fun z => by rw [(hne id' k).2]; exact t3 z⟩
    · obtain ⟨sh, e1, sz1, m1, rs, t1, t2, t3⟩ := q
      have k : id' ≠ id := fun k => by subst k; rw [hH] at t1; cases t1
      exact ⟨sh, e1, sz1, m1, rs, by rw [(hne id' k).1]; exact t1, t2, fun z => by rw [(hne id' k).2]; exact t3 z⟩
    · obtain ⟨k1, k2⟩ := hblk id' v b q1 q2
      exact q id' v k2 q2
  refine ⟨⟨hI.below, fun id' v q => ?_, fun id1 id2 v1 v2 b q1 q2 q3 q4 => hI.apart id1 id2 v1 v2 b (hblk _ _ _ q1 q3).2 (hblk _ _ _ q2 q4).2 q3 q4, hI.fresh, fun id' v b q1 q2 => hI.okG id' v b (hblk _ _ _ q1 q2).2 q2⟩, hle⟩
  by_cases k : id' = id
  · subst k
    rw [hGi] at q
    injection q with q
    subst q
    refine ⟨_, hHi, ?_⟩
    rcases ho with ⟨e, rfl | rfl⟩
    · exact ⟨hsz, [], World.ownsRow_nil _ _ _ _⟩
    · exact ⟨hsz, by simp, [], World.ownsRow_nil _ _ _ _, by simp [RdL], by simp⟩
  · rw [(hne id' k).2] at q
    obtain ⟨o, k1, k2⟩ := hI.obj id' v q
    exact ⟨o, by rw [(hne id' k).1]; exact k1, Held.kept hle rfl k2 fun _ _ => rfl⟩

theorem adopt_cx {C : Cx} (hI : Inv C) (id sz : Nat) (e : TypeId) (hsz : 0 < sz) (hH : C.H id = none) :
    Inv { C with H := upd C.H id (.row e sz 0), G := upd C.G id (.slice none 0 0) } ∧ Le C { C with H := upd C.H id (.row e sz 0), G := upd C.G id (.slice none 0 0) } := adopt_o hI id sz _ ⟨e, .inl rfl⟩ hsz hH
theorem RdL.set {C : Cx} : ∀ {xs : List AV} {vs : List Value} (j : Nat) (y : AV), RdL C xs vs → (∀ v, vs[j]? = some v → Rd C y v) → RdL C (xs.set j y) vs
  | [], [], _, _, h, _ => h
  | [], _ :: _, _, _, h, _ => by simp [RdL] at h
  | _ :: _, [], _, _, h, _ => by simp [RdL] at h
  | x :: xs, v :: vs, 0, y, h, k => by simp only [List.set_cons_zero, RdL] at h ⊢; exact ⟨k v (by simp), h.2⟩
  | x :: xs, v :: vs, j + 1, y, h, k => by simp only [List.set_cons_succ, RdL] at h ⊢; exact ⟨h.1, RdL.set j y h.2 (fun u hu => k u (by simpa using hu))⟩

/-- A variable's cells, told otherwise. -/
theorem retell {C : Cx} (hI : Inv C) {id : Nat} {t : TypeId} {cells cells' : List AV} (hH : C.H id = some (.box t cells)) (hc : ∀ vs, RdL C cells vs → RdL C cells' vs) :
    Inv { C with H := upd C.H id (.box t cells') } ∧ Le C { C with H := upd C.H id (.box t cells') } := by
  let C' : Cx := { C with H := upd C.H id (.box t cells') }
  have hne : ∀ id', id' ≠ id → C'.H id' = C.H id' := fun id' q => upd_ne _ _ q
  have hf : ∀ id' e sz n, C.H id' = some (.row e sz n) → C'.H id' = some (.row e sz n) := fun id' e sz n q => by
    have k : id' ≠ id := fun k => by subst k; rw [hH] at q; cases q
    rw [hne id' k]; exact q
  have hfa : ∀ id' e sz ver rows, C.H id' = some (.arr e sz ver rows) → C'.H id' = some (.arr e sz ver rows) := fun id' e sz ver rows q => by
    have k : id' ≠ id := fun k => by subst k; rw [hH] at q; cases q
    rw [hne id' k]; exact q
  have hle : Le C C' := ⟨fun b j u k k2 => ⟨⟨k.1, fun id v q1 q2 => let ⟨e, sz, n, k3, k4⟩ := k.2 id v q1 q2; ⟨e, sz, n, hf _ _ _ _ k3, k4⟩⟩, k2⟩, fun _ _ h => h, fun id n v ⟨e, sz, m, t1, t2, t3⟩ => ⟨e, sz, m, hf _ _ _ _ t1, t2, t3⟩, fun id n z v ⟨sh, e, sz, m, rs, t1, t2, t3⟩ => ⟨sh, e, sz, m, rs, hfa _ _ _ _ _ t1, t2, t3⟩, Nat.le_refl _, fun b _ h => ⟨rfl, h⟩⟩
  refine ⟨⟨hI.below, fun id' v q => ?_, hI.apart, hI.fresh, hI.okG⟩, hle⟩
  obtain ⟨o, k1, k2⟩ := hI.obj id' v q
  by_cases k : id' = id
  · subst k
    rw [hH] at k1
    injection k1 with k1
    subst k1
    obtain ⟨b, cs, q1, q2, q3, q4, q5⟩ := k2
    exact ⟨.box t cells', upd_same _ _ _, b, cs, q1, q2, q3, (hc _ q4).le hle, q5⟩
  · exact ⟨o, by rw [hne id' k]; exact k1, Held.kept hle rfl k2 fun _ _ => rfl⟩

/-- A nil slice in a variable is taken for a row of the call's own, with nothing in it yet. -/
theorem AW.adoptB {P : Program} {S : Nat → Bool} {Q : Exit → St → Prop} {c : Code} {n : Nat} {E : List (Nat × AV)} {H : List (Nat × AObj)} (id : Nat) {t : TypeId} {cells : List AV} (hb : lk H id = some (.box t cells)) (j : Nat) {s0 : Nat} (hj : cells[j]? = some (.sl .nil s0 [])) (id2 sz : Nat) (e : TypeId) (hsz : Nat.blt 0 sz = true) (hid : lk H id2 = none)
    (h : AW P S c Q (mkS n E ((id, .box t (cells.set j (.sl (.own id2) sz []))) :: (id2, .row e sz 0) :: H))) : AW P S c Q (mkS n E H) := fun C a hr => by
  have hsz : 0 < sz := Nat.le_of_ble_eq_true hsz
  have hH : C.H id2 = none := by rw [hr.H]; exact hid
  have hne : id ≠ id2 := fun q => by subst q; rw [hb] at hid; cases hid
  obtain ⟨hI1, hle1⟩ := adopt_cx hr.inv id2 sz e hsz hH
  let C1 : Cx := { C with H := upd C.H id2 (.row e sz 0), G := upd C.G id2 (.slice none 0 0) }
  have hb1 : C1.H id = some (.box t cells) := by
    show upd C.H id2 _ id = _
    rw [upd_ne _ _ hne, hr.H]; exact hb
  obtain ⟨hI2, hle2⟩ := retell hI1 (cells' := cells.set j (.sl (.own id2) sz [])) hb1 (fun vs hv => hv.set j _ (fun v q => by
    obtain ⟨u, q1, q2⟩ := hv.get hj
    rw [q] at q1
    injection q1 with q1
    subst q1
    simp only [Rd] at q2 ⊢
    obtain ⟨A, cp, e0, h1, h2, _, h4⟩ := q2
    rw [h4]
    exact ⟨none, 0, rfl, Nat.le_refl _, by simp, .inl trivial, e, sz, 0, upd_same _ _ _, Nat.le_refl _, fun _ => upd_same _ _ _⟩))
  let C2 : Cx := { C1 with H := upd C1.H id (.box t (cells.set j (.sl (.own id2) sz []))) }
  have hle : Le C C2 := hle1.trans hle2
  have hI2 : Inv C2 := hI2
  refine wp_mono (h C2 a ⟨hI2, ?_, fun id' o q => ?_, fun d v q => (hr.env d v q).le hle, hr.size, hr.defers⟩) (fun e a w z => Lift.later z rfl rfl (hle.leS S))
  · show upd (upd C.H id2 _) id _ = lk _
    rw [lk_cons, lk_cons, hr.H]
  · have q : lk ((id, _) :: (id2, _) :: H) id' = some o := q
    rw [lk_cons, lk_cons] at q
    by_cases k : id' = id2
    · subst k; exact ⟨_, upd_same _ _ _⟩
    · have : ∃ o', lk H id' = some o' := by
        by_cases k2 : id' = id
        · subst k2; exact ⟨_, hb⟩
        · rw [upd_ne _ _ k2, upd_ne _ _ k] at q; exact ⟨o, q⟩
      obtain ⟨o', ho⟩ := this
      obtain ⟨u, hu⟩ := hr.real id' o' ho
      exact ⟨u, by show upd C.G id2 _ id' = _; rw [upd_ne _ _ k]; exact hu⟩


/-- A nil slice in a variable is taken for an array of the call's own, with nothing in it yet. -/
theorem AW.adoptM {P : Program} {S : Nat → Bool} {Q : Exit → St → Prop} {c : Code} {n : Nat} {E : List (Nat × AV)} {H : List (Nat × AObj)} (id : Nat) {t : TypeId} {cells : List AV} (hb : lk H id = some (.box t cells)) (j : Nat) {s0 : Nat} (hj : cells[j]? = some (.sl .nil s0 [])) (id2 sz : Nat) (e : TypeId) (hsz : Nat.blt 0 sz = true) (hid : lk H id2 = none)
    (h : AW P S c Q (mkS n E ((id, .box t (cells.set j (.mv id2 0 .hdr))) :: (id2, .arr e sz 0 []) :: H))) : AW P S c Q (mkS n E H) := fun C a hr => by
  have hsz : 0 < sz := Nat.le_of_ble_eq_true hsz
  have hH : C.H id2 = none := by rw [hr.H]; exact hid
  have hne : id ≠ id2 := fun q => by subst q; rw [hb] at hid; cases hid
  obtain ⟨hI1, hle1⟩ := adopt_o hr.inv id2 sz (.arr e sz 0 []) ⟨e, .inr rfl⟩ hsz hH
  let C1 : Cx := { C with H := upd C.H id2 (.arr e sz 0 []), G := upd C.G id2 (.slice none 0 0) }
  have hb1 : C1.H id = some (.box t cells) := by
    show upd C.H id2 _ id = _
    rw [upd_ne _ _ hne, hr.H]; exact hb
  obtain ⟨hI2, hle2⟩ := retell hI1 (cells' := cells.set j (.mv id2 0 .hdr)) hb1 (fun vs hv => hv.set j _ (fun v q => by
    obtain ⟨u, q1, q2⟩ := hv.get hj
    rw [q] at q1
    injection q1 with q1
    subst q1
    simp only [Rd] at q2 ⊢
    obtain ⟨A, cp, e0, h1, h2, _, h4⟩ := q2
    rw [h4]
    exact ⟨⟨none, 0, 0, rfl⟩, e, sz, 0, [], upd_same _ _ _, Nat.le_refl _, fun _ => ⟨_, upd_same _ _ _, rfl⟩⟩))
  let C2 : Cx := { C1 with H := upd C1.H id (.box t (cells.set j (.mv id2 0 .hdr))) }
  have hle : Le C C2 := hle1.trans hle2
  have hI2 : Inv C2 := hI2
  refine wp_mono (h C2 a ⟨hI2, ?_, fun id' o q => ?_, fun d v q => (hr.env d v q).le hle, hr.size, hr.defers⟩) (fun e a w z => Lift.later z rfl rfl (hle.leS S))
  · show upd (upd C.H id2 _) id _ = lk _
    rw [lk_cons, lk_cons, hr.H]
  · have q : lk ((id, _) :: (id2, _) :: H) id' = some o := q
    rw [lk_cons, lk_cons] at q
    by_cases k : id' = id2
    · subst k; exact ⟨_, upd_same _ _ _⟩
    · have : ∃ o', lk H id' = some o' := by
        by_cases k2 : id' = id
        · subst k2; exact ⟨_, hb⟩
        · rw [upd_ne _ _ k2, upd_ne _ _ k] at q; exact ⟨o, q⟩
      obtain ⟨o', ho⟩ := this
      obtain ⟨u, hu⟩ := hr.real id' o' ho
      exact ⟨u, by show upd C.G id2 _ id' = _; rw [upd_ne _ _ k]; exact hu⟩

end Go.Proofs.Ytbcjcekoonebiaa.Tl
