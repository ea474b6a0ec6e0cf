/-
  What chapter 1's examples and its program's functions answer, for the plain statements.
-/
import Derived.Test.YtnkakhcombmdoaaLcodecRef
import Derived.Test.YtnkakhcombmdoaaFsextonlaw01laid
namespace Go.Proofs.Ytnkakhcombmdoaa.P
open Go.RowKit Go.Proofs.CodecPlain Go.Proofs.YtnkakhcombmdoaaW.PrintWords Go.Proofs.YtnkakhcombmdoaaW.PrintLast

theorem laid_true : sextonlaw01_laid.f = some true := by decide +kernel
theorem num_f (n : Int) : codec_Number.f n = some (if 0 ≤ n ∧ n ≤ 4294967295 then (numStr n, 0) else (⟨#[]⟩, 1)) := by
  unfold codec_Number.f; split <;> rfl
theorem text_f (s : ByteArray) : codec_Text.f s = some (if s.size ≤ 4000 then (textStr s, 0) else (⟨#[]⟩, 2)) := by
  by_cases h : s.size ≤ 4000
  · rw [text_ok s h, if_pos h]
  · rw [text_no s (by omega), if_neg h]
theorem row_f (l : List ByteArray) : codec_Row.f l = some (if 1000 < l.length then (⟨#[]⟩, 2) else if l.all (fun s => decide (s.size ≤ 4000)) = true then (rowStr l, 0) else (⟨#[]⟩, 2)) := by
  unfold codec_Row.f; split
  · rfl
  · split <;> rfl
theorem all_le (l : List ByteArray) : l.all (fun s => decide (s.size ≤ 4000)) = true ↔ ∀ s ∈ l, s.size ≤ 4000 := by
  rw [List.all_eq_true]; simp
theorem eq_toList (a b : ByteArray) : (a.toList = b.toList) ↔ a = b := ⟨toList_inj, fun h => by rw [h]⟩
end Go.Proofs.Ytnkakhcombmdoaa.P
