/-
  The plain statement of CodecSame: what is read is laid as it was, with what stands behind.
-/
import Derived.Test.YtnkakhcombmdoaaLcodec
import Derived.Test.YtnkakhcombmdoaaMOpens
import Derived.Test.YtnkakhcombmdoaaFsextonlaw01CodecSame
namespace Go.Proofs.Ytnkakhcombmdoaa.Pure
open Go.RowKit Go.Proofs.CodecPlain Go.Proofs.YtnkakhcombmdoaaW.PrintWords Go.Proofs.YtnkakhcombmdoaaW.PrintLast Go.Proofs.Ytnkakhcombmdoaa.P Go.Proofs.Ytnkakhcombmdoaa.Opens

theorem row_ok {l : List ByteArray} (h1 : l.length ≤ 1000) (h2 : ∀ t ∈ l, t.size ≤ 4000) : codec_Row.f l = some (rowStr l, 0) := by
  rw [row_f, if_neg (by omega), if_pos ((all_le l).2 h2)]
theorem num_ok {n : Int} (h0 : 0 ≤ n) (h1 : n ≤ 4294967295) : codec_Number.f n = some (numStr n, 0) := by rw [num_f, if_pos ⟨h0, h1⟩]
theorem same1 (s : ByteArray) (hs : s.size ≤ 1000) (k : Nat) : sextonlaw01_CodecSame.j1 (k + 1) s false = some true := by
  simp only [sextonlaw01_CodecSame.j1, codec_GetRow.f]
  rw [if_neg (by decide)]
  simp only [Option.bind_some]
  obtain ⟨l, r, b, hl⟩ : ∃ l r b, getRow s = (l, r, b) := ⟨_, _, _, rfl⟩
  rw [hl]
  cases b with
  | false => simp [row_f, laid_true]
  | true =>
    obtain ⟨h1, h2, h3⟩ := getRow_got hl
    have hsz : (rowStr l ++ r).size ≤ 1000 := by rw [← h3]; exact hs
    rw [CodecPlain.size_append] at hsz
    rw [row_ok h1 h2, laid_true]
    simp only [Option.bind_some, if_true]
    rw [if_pos (by omega), ← h3]
    simp
theorem same0 (s : ByteArray) (hs : s.size ≤ 1000) (k : Nat) : sextonlaw01_CodecSame.j0 (k + 2) s false = some true := by
  have h1 := same1 s hs k
  rw [show k + 2 = (k + 1) + 1 by omega]
  simp only [sextonlaw01_CodecSame.j0, getText_f]
  rw [if_neg (by decide)]
  simp only [Option.bind_some]
  obtain ⟨t, r, b, hl⟩ : ∃ t r b, getText s = (t, r, b) := ⟨_, _, _, rfl⟩
  rw [hl]
  cases b with
  | false => simpa [text_f] using h1
  | true =>
    obtain ⟨h2, h3⟩ := getText_got hl
    have hsz : (textStr t ++ r).size ≤ 1000 := by rw [← h3]; exact hs
    rw [CodecPlain.size_append] at hsz
    rw [text_ok t h2]
    simp only [Option.bind_some, if_true]
    rw [if_pos (by omega), ← h3]
    simpa using h1
theorem CodecSame (a0 : ByteArray) (h0 : OkStr a0) :
    ∃ k, sextonlaw01_CodecSame.f k a0 = some true := by
  refine ⟨2, ?_⟩
  unfold sextonlaw01_CodecSame.f
  by_cases hs : (a0.size : Int) > 1000
  · rw [if_pos hs]
  · rw [if_neg hs]
    have h1 := same0 a0 (by omega) 0
    simp only [codec_GetNumber.f, Option.bind_some]
    obtain ⟨n, r, b, hl⟩ : ∃ n r b, getNum a0 = (n, r, b) := ⟨_, _, _, rfl⟩
    rw [hl]
    cases b with
    | false => simpa [num_f] using h1
    | true =>
      obtain ⟨h2, h3, h4⟩ := getNum_got hl
      have hsz : (numStr n ++ r).size ≤ 1000 := by rw [← h4]; omega
      rw [CodecPlain.size_append] at hsz
      rw [num_ok h2 h3]
      simp only [Option.bind_some, if_true]
      rw [if_pos (by omega), ← h4]
      simpa using h1
end Go.Proofs.Ytnkakhcombmdoaa.Pure
