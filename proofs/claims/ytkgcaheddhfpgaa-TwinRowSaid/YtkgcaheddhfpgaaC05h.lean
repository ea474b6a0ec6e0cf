/-
  Texts that the claims of this chapter share, joined.
-/
import Derived.Test.YtkgcaheddhfpgaaC05e
set_option linter.unusedVariables false
set_option linter.unusedSimpArgs false
/-
  What can be read as data, and is no greater than a machine's memory, reads as a value of its kind.
-/
namespace Go.Proofs.Ytkgcaheddhfpgaa.Opens
open Go.ChangeShapes Go.WideShapes Go.ChangeAt Go.RowKit Go.Proofs.YtkgcaheddhfpgaaW.PrintWords

def OpensW (P : Program) {α : Type} (kd : Kd α) (ok : α → Prop) (t : TypeId) : Prop :=
  ∀ {H : Type} (enc : TypeId × Value → H) (W : World) (base : Nat) (spare : Nat → Bool) (held : Bool) (fuel : Nat) (cs : List Value) (x : DataW H × List MemPlace),
    DataW.trod enc P W base spare held fuel t cs = some x → (∀ n ∈ DataW.weights P t x.1, n ≤ reachBytes) → ∃ a, kd.K W a cs ∧ ok a
/-- A row of so many bytes. -/
def OkListW {α : Type} (B : Nat) (ok : α → Prop) (l : List α) : Prop := l.length * B ≤ 140737488351232 ∧ ∀ a ∈ l, ok a
section
variable {P : Program} {t e : TypeId}
theorem opensW_of {α : Type} {kd : Kd α} {ok : α → Prop} (h : Opens P kd ok t) : OpensW P kd ok t := fun enc W base spare held fuel cs x hx _ => h enc W base spare held fuel cs x hx
theorem weights_all {H : Type} : ∀ {l : List (DataW H)} {i : Nat} {d : DataW H}, l[i]? = some d → ∀ n ∈ DataW.weights P e d, n ∈ DataW.weightsAll P e l
  | x :: l, 0, d, h, n, hn => by
    simp only [List.getElem?_cons_zero, Option.some.injEq] at h
    subst h
    simp only [DataW.weightsAll, List.mem_append]
    exact Or.inl hn
  | x :: l, i + 1, d, h, n, hn => by
    simp only [List.getElem?_cons_succ] at h
    simp only [DataW.weightsAll, List.mem_append]
    exact Or.inr (weights_all h n hn)
theorem opensW_slice {α : Type} {kd : Kd α} {ok : α → Prop} {B : Nat} (ht : P.underlying t = some (.slice e)) (hc : P.cellsOf e = kd.sz) (hB : P.bytesOf e = B) (he : OpensW P kd ok e) : OpensW P (Kd.slice e kd) (OkListW B ok) t := by
  intro H enc W base spare held fuel cs x h hwt
  rcases DataW.trod_slice ht h with ⟨rfl, _⟩ | ⟨a, len, cap, elems, rest, n, _, rfl, hx, hb, hl, hm, hlen, hel, _, _⟩
  · exact ⟨[], ⟨none, 0, rfl, Nat.le_refl _, rfl, by simp, fun h0 => absurd h0 (Nat.lt_irrefl 0)⟩, by simp, by simp⟩
  · have hw0 : (elems.length + rest.length) * P.bytesOf e ≤ 140737488351232 := by
      have := hwt ((elems.length + rest.length) * P.bytesOf e) (by
        rw [hx]
        simp only [DataW.weights, ht, List.length_map]
        exact List.mem_cons_self)
      exact this
    have hwe : ∀ (i : Nat) (y : DataW H × List MemPlace), elems[i]? = some y → ∀ n ∈ DataW.weights P e y.1, n ≤ reachBytes := by
      intro i y hy n hn
      refine hwt n ?_
      rw [hx]
      simp only [DataW.weights, ht, List.mem_cons, List.mem_append]
      exact Or.inr (Or.inl (weights_all (List.getElem?_map .. ▸ (by rw [hy]; rfl) : (elems.map (·.1))[i]? = some y.1) n hn))
    have each : ∀ i, i < len → ∃ (y : α) (c : List Value), c.length = kd.sz ∧ kd.K W y c ∧ ok y ∧ ∀ j u, c[j]? = some u → W.cell? ((a.add (i * kd.sz)).add j) = some u := by
      intro i hi
      have h1 := hel i hi
      rw [hc, List.getElem?_eq_getElem (by omega), Option.bind_eq_some_iff] at h1
      obtain ⟨c, hcs, hy⟩ := h1
      obtain ⟨y, hK, hok⟩ := he enc W base spare held n c _ hy (hwe i _ (List.getElem?_eq_getElem (by omega)))
      obtain ⟨_, hcl, hcell⟩ := World.cells?_some hcs
      refine ⟨y, c, kd.K_len hK, hK, hok, fun j u hj => ?_⟩
      have hjl : j < kd.sz := by have := (List.getElem?_eq_some_iff.1 hj).1; rw [kd.K_len hK] at this; exact this
      rw [hcell j hjl, hj]
    have pick : ∃ l : List α, l.length = len ∧ ∀ i y, l[i]? = some y → ∃ c : List Value, c.length = kd.sz ∧ kd.K W y c ∧ ok y ∧ ∀ j u, c[j]? = some u → W.cell? ((a.add (i * kd.sz)).add j) = some u := by
      have key : ∀ m, m ≤ len → ∃ l : List α, l.length = m ∧ ∀ i y, l[i]? = some y → ∃ c : List Value, c.length = kd.sz ∧ kd.K W y c ∧ ok y ∧ ∀ j u, c[j]? = some u → W.cell? ((a.add (i * kd.sz)).add j) = some u := by
        intro m
        induction m with
        | zero => intro _; exact ⟨[], rfl, fun i y h => by simp at h⟩
        | succ m ih =>
          intro hm
          obtain ⟨l, hl1, hl2⟩ := ih (by omega)
          obtain ⟨y, c, h1, h2, h3, h4⟩ := each m (by omega)
          refine ⟨l ++ [y], by simp [hl1], fun i z hz => ?_⟩
          rcases Nat.lt_or_ge i l.length with hi | hi
          · rw [List.getElem?_append_left hi] at hz
            exact hl2 i z hz
          · have : i = l.length := by
              have := (List.getElem?_eq_some_iff.1 hz).1
              rw [List.length_append, List.length_singleton] at this
              omega
            subst this
            have hz' : y = z := by simpa using hz
            subst hz'
            exact ⟨c, h1, h2, h3, by rw [hl1]; exact h4⟩
      exact key len (Nat.le_refl _)
    obtain ⟨l, hl1, hl2⟩ := pick
    subst hl1
    refine ⟨l, ⟨some a, cap, rfl, hl, rfl, by unfold maxLen at hm; omega, fun _ => ⟨a, rfl, fun j p hj => ?_⟩⟩, ?_, fun y hy => ?_⟩
    rotate_left 1
    · rw [hB] at hw0
      rw [hlen] at hw0
      exact Nat.le_trans (Nat.mul_le_mul_right _ (Nat.le_add_right _ _)) hw0
    rotate_left 1
    · obtain ⟨c, h1, h2, _, h4⟩ := hl2 j p hj
      refine ⟨c, h1, h2, fun i u hu => ?_⟩
      rw [← h4 i u hu, addr_add]
    · obtain ⟨i, hi⟩ := List.getElem?_of_mem hy
      obtain ⟨_, _, _, h3, _⟩ := hl2 i y hi
      exact h3
theorem param_sliceW {α : Type} {kd : Kd α} {ok : List α → Prop} {W : World} {r : Reach} {b0 base : Nat} {H : Type} {enc : TypeId × Value → H} {spare : Nat → Bool} {held : Bool} {v : Value} {d : DataW H} {ps : List MemPlace} {ts : List TypeId} {ds : List (DataW H)} {j : Nat} (ht : P.underlying t = some (.slice e)) (h : OpensW P (Kd.slice e kd) ok t) (hval : Value.okWide P W r b0 t v) (hd : DataW.Trod enc P W base spare held t v d ps)
    (hsz : (DataW.weightsEach P ts ds).all (· ≤ reachBytes) = true) (htj : ts[j]? = some t) (hdj : ds[j]? = some d) :
    ∃ A c l, v = .slice A l.length c ∧ l.length ≤ c ∧ Kd.C kd W A l.length l ∧ ok l := by
  obtain ⟨a, len, cap, rfl⟩ := okWide_slice ht hval
  obtain ⟨fuel, hf⟩ := hd
  obtain ⟨l, ⟨A, c, hcs, hl, hC⟩, hok⟩ := h enc W base spare held fuel _ _ hf (fun n hn => by simpa using List.all_eq_true.1 hsz n (DataW.weights_mem_each htj hdj n hn))
  have : Value.slice a len cap = Value.slice A l.length c := by simpa [Value.cells] using hcs
  exact ⟨A, c, l, this, hl, hC, hok⟩
end
end Go.Proofs.Ytkgcaheddhfpgaa.Opens
