/- What a definition with fuel comes to, once there is enough of it. Conditions: none. -/
import Derived.Test.YtbcjcekoonebiaaTlU
set_option linter.unusedVariables false
namespace Go.Proofs.Ytbcjcekoonebiaa.Tl
open Go Go.RowKit

/-- With enough fuel it is this. -/
def Ev {α : Type} (f : Nat → Option α) (a : α) : Prop := ∃ N, ∀ n, N ≤ n → f n = some a
theorem Ev.mk {α : Type} (a : α) : Ev (fun _ => some a) a := ⟨0, fun _ _ => rfl⟩
theorem Ev.succ {α : Type} {f : Nat → Option α} {a : α} (h : Ev (fun n => f (n + 1)) a) : Ev f a :=
  let ⟨N, h⟩ := h
  ⟨N + 1, fun n hn => by
    cases n with
    | zero => omega
    | succ n => exact h n (by omega)⟩
theorem Ev.bind {α β : Type} {f : Nat → Option α} {g : Nat → α → Option β} {a : α} {b : β} (h : Ev f a) (k : Ev (fun n => g n a) b) : Ev (fun n => (f n).bind (g n)) b :=
  let ⟨N, h⟩ := h
  let ⟨M, k⟩ := k
  ⟨max N M, fun n hn => by
    show (f n).bind (g n) = some b
    rw [h n (by omega), Option.bind_some]
    exact k n (by omega)⟩
theorem Ev.bindc {α β : Type} {x : Option α} {g : Nat → α → Option β} {a : α} {b : β} (h : x = some a) (k : Ev (fun n => g n a) b) : Ev (fun n => x.bind (g n)) b := by
  subst h
  exact k
theorem Ev.t {α : Type} {c : Bool} {f g : Nat → Option α} {a : α} (h : c = true) (k : Ev f a) : Ev (fun n => bif c then f n else g n) a := by subst h; exact k
theorem Ev.f {α : Type} {c : Bool} {f g : Nat → Option α} {a : α} (h : c = false) (k : Ev g a) : Ev (fun n => bif c then f n else g n) a := by subst h; exact k
theorem Ev.g {α : Type} {p : Prop} [Decidable p] {f : Nat → Option α} {a : α} (h : p) (k : Ev f a) : Ev (fun n => if p then f n else none) a := by simp only [h, if_true]; exact k
theorem Ev.get {α : Type} {f : Nat → Option α} {a : α} (h : Ev f a) : ∃ n, f n = some a := let ⟨N, h⟩ := h; ⟨N, h N (Nat.le_refl N)⟩
/-- Either way. -/
theorem Ev.if {α : Type} {c : Bool} {f g : Nat → Option α} {a b : α} (h : c = true → Ev f a) (k : c = false → Ev g b) : Ev (fun n => bif c then f n else g n) (bif c then a else b) := by
  cases c
  · exact k rfl
  · exact h rfl
theorem Ev.ifa {α : Type} {p c : Bool} {f g : Nat → Option α} {a b : α} (hp : p = true) (h : c = true → Ev f a) (k : c = false → Ev g b) : Ev (fun n => bif p && c then f n else g n) (bif c then a else b) := by
  subst hp
  exact Ev.if h k
theorem and_f {a b : Bool} (h : a = false) : (a && b) = false := by subst h; rfl
theorem or_f {a b : Bool} (h : (a || b) = false) : a = false ∧ b = false := by cases a <;> cases b <;> simp_all
theorem Ev.congr {α : Type} {f : Nat → Option α} {a b : α} (h : Ev f a) (e : a = b) : Ev f b := e ▸ h
/-- .. with nothing behind it. -/
theorem Ev.ret {α β : Type} {f : Nat → Option α} {g : α → β} {a : α} (h : Ev f a) : Ev (fun n => (f n).bind fun q => some (g q)) (g a) := Ev.bind h (Ev.mk _)
end Go.Proofs.Ytbcjcekoonebiaa.Tl
