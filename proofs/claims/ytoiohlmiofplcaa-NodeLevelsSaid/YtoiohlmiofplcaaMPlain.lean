/-
  Small plain words: the first place where a predicate holds; a list's element.
-/
import Derived.Test.YtoiohlmiofplcaaWWords
namespace Go.Proofs.Plain
open Go.Proofs.YtoiohlmiofplcaaW.PrintWords

theorem rdOf_nat {α : Type} {d : α} (l : List α) (k : Nat) (h : k < l.length) : rdOf d l (k : Int) = l[k] := by
  simp [rdOf, List.getD_eq_getElem?_getD, h]
/-- The first place at which p holds, or -1. -/
def idx {α : Type} (p : α → Bool) (l : List α) : Int := if l.any p = true then ((l.takeWhile fun x => !p x).length : Int) else -1
theorem idx_none {α : Type} {p : α → Bool} {l : List α} (h : ∀ x ∈ l, p x = false) : idx p l = -1 := by
  unfold idx
  rw [if_neg]
  intro h1
  obtain ⟨x, hx, hp⟩ := List.any_eq_true.1 h1
  rw [h x hx] at hp; cases hp
theorem idx_at {α : Type} {p : α → Bool} {l : List α} {k : Nat} (hk : k < l.length) (h : ∀ x ∈ l.take k, p x = false) (hp : p l[k] = true) : idx p l = (k : Int) := by
  unfold idx
  rw [if_pos (List.any_eq_true.2 ⟨l[k], List.getElem_mem hk, hp⟩)]
  have hl : l = l.take k ++ l[k] :: l.drop (k + 1) := by
    rw [List.getElem_cons_drop, List.take_append_drop]
  have key : ∀ (a : List α) (x : α) (b : List α), (∀ y ∈ a, p y = false) → p x = true → ((a ++ x :: b).takeWhile fun x => !p x).length = a.length := by
    intro a
    induction a with
    | nil => intro x b _ hx; simp [List.takeWhile, hx]
    | cons y a ih =>
      intro x b ha hx
      have h1 := ha y List.mem_cons_self
      simp only [List.cons_append, List.takeWhile, h1, Bool.not_false, List.length_cons]
      rw [ih x b (fun z hz => ha z (List.mem_cons_of_mem _ hz)) hx]
  have := key (l.take k) l[k] (l.drop (k + 1)) h hp
  rw [← hl, List.length_take] at this
  rw [this]
  omega
theorem idx_ge {α : Type} (p : α → Bool) (l : List α) : decide (idx p l ≥ 0) = l.any p := by
  unfold idx
  cases h : l.any p with
  | true => rw [if_pos rfl]; exact decide_eq_true (by omega)
  | false => rw [if_neg (by decide)]; rfl
end Go.Proofs.Plain
