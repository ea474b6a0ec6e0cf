/-
  Texts that the claims of this chapter share, joined.
-/
import Derived.Test.YtfdpebipnapelaaC13b
set_option linter.unusedVariables false
set_option linter.unusedSimpArgs false
/-
  Which chunks are there, told plainly.
-/
namespace Go.Proofs.Ytfdpebipnapelaa.P
open Go.RowKit Go.Proofs Go.Proofs.CodecPlain Go.Proofs.YtfdpebipnapelaaW.PrintWords Go.Proofs.YtfdpebipnapelaaW.PrintLast

theorem findT_none {l : List ByteArray} {n : Int} (h : ∀ s ∈ l, sumV s ≠ n) : findT l n = none := by
  unfold findT
  rw [List.find?_eq_none]
  intro s hs
  have := h s hs
  simpa using this
theorem findT_some {l : List ByteArray} {n : Int} {s : ByteArray} (h : findT l n = some s) : s ∈ l ∧ sumV s = n := by
  unfold findT at h
  exact ⟨List.mem_of_find?_eq_some h, by simpa using List.find?_some h⟩
theorem findT_mem {l : List ByteArray} {s : ByteArray} (h : s ∈ l) : ∃ t, findT l (sumV s) = some t ∧ t ∈ l ∧ sumV t = sumV s := by
  cases e : findT l (sumV s) with
  | some t => exact ⟨t, rfl, findT_some e⟩
  | none =>
    unfold findT at e
    rw [List.find?_eq_none] at e
    have := e s h
    simp at this
theorem inI_sum (s : ByteArray) : inI (sumV s) = true := by
  have h := sumV_wf s
  simp only [Lit.wf, Bool.and_eq_true, decide_eq_true_eq] at h
  unfold inI
  rw [decide_eq_true (show -9223372036854775808 ≤ sumV s from h.1), decide_eq_true (show sumV s ≤ 9223372036854775807 from h.2)]
  rfl
theorem inI_sums (l : List ByteArray) : (l.map sumV).all inI = true := by
  rw [List.all_eq_true]
  intro n hn
  obtain ⟨s, _, rfl⟩ := List.mem_map.1 hn
  exact inI_sum s
theorem have_f {m : List Int} {l : List ByteArray} (a b : Int) (h1 : l.length ≤ 1000000000) (h2 : ∀ s ∈ l, s.size ≤ 1000000000) (h3 : m.length ≤ 1000000000) (h4 : m.all inI = true) : chain_Have.f a b m l = some (haveK l m m.length) := by
  unfold chain_Have.f
  rw [if_pos]
  rw [decide_eq_true h1, decide_eq_true h3, h4, List.all_eq_true.2 (fun s h => decide_eq_true (h2 s h))]
  rfl
theorem whole_f {m : List Int} {l : List ByteArray} (a b : Int) (h1 : l.length ≤ 1000000000) (h2 : ∀ s ∈ l, s.size ≤ 1000000000) (h3 : m.length ≤ 1000000000) : chain_Whole.f a b m l = some (wholeV a b m l) := by
  unfold chain_Whole.f
  rw [if_pos]
  rw [decide_eq_true h1, decide_eq_true h3, List.all_eq_true.2 (fun s h => decide_eq_true (h2 s h))]
  rfl
theorem haveK_all {l : List ByteArray} {m : List Int} (h : ∀ n ∈ m, (findT l n).isSome = true) : (haveK l m m.length).length = m.length := by
  unfold haveK
  rw [List.length_map, List.filter_eq_self.2]
  · exact List.length_range
  · intro i hi
    have hi' := List.mem_range.1 hi
    have : m.getD i 0 = m[i] := by simp [List.getD_eq_getElem?_getD, hi']
    show (findT l (m.getD i 0)).isSome = true
    rw [this]
    exact h _ (List.getElem_mem hi')
theorem haveK_less {l : List ByteArray} {m : List Int} {i : Nat} (hi : i < m.length) (h : findT l m[i] = none) : (haveK l m m.length).length < m.length := by
  unfold haveK
  rw [List.length_map]
  have h0 : (List.range m.length).length = m.length := List.length_range
  have h1 : ((List.range m.length).filter (fun i : Nat => (findT l (m.getD i 0)).isSome)).length < (List.range m.length).length := by
    rw [List.length_filter_lt_length_iff_exists]
    refine ⟨i, List.mem_range.2 hi, ?_⟩
    have : m.getD i 0 = m[i] := by simp [List.getD_eq_getElem?_getD, hi]
    rw [this, h]
    simp
  omega
theorem crcSum_f {s : ByteArray} (h : s.size ≤ 1000000000) : crc_Sum.f s = some (sumV s) := by
  unfold crc_Sum.f
  rw [if_pos h]
end Go.Proofs.Ytfdpebipnapelaa.P
