/-
  The plain statement of CodecBack: what is laid is read, whatever stands behind.
-/
import Derived.Test.YtnkakhcombmdoaaLcodecFar
import Derived.Test.YtnkakhcombmdoaaLcodec
import Derived.Test.YtnkakhcombmdoaaMOpens
import Derived.Test.YtnkakhcombmdoaaFsextonlaw01CodecBack
namespace Go.Proofs.Ytnkakhcombmdoaa.Pure
open Go.RowKit Go.Proofs.CodecPlain Go.Proofs.YtnkakhcombmdoaaW.PrintWords Go.Proofs.YtnkakhcombmdoaaW.PrintLast Go.Proofs.Ytnkakhcombmdoaa.P Go.Proofs.Ytnkakhcombmdoaa.Opens

theorem back1 (a1 : ByteArray) (l2 : List ByteArray) (a3 : ByteArray) (hs1 : a1.size ≤ 300) (hs3 : a3.size ≤ 300) (hf : farB l2 = false) :
    ∃ K, ∀ k, K ≤ k → sextonlaw01_CodecBack.j1 k a1 l2 a3 false = some true := by
  have hlen := far_len hf
  have hts := textStr_size a1
  by_cases hr : 1000 < l2.length
  · obtain ⟨K5, e5⟩ := refTexts (getRow (⟨#[]⟩ ++ a3)).1 l2 (by
      cases hg : (getRow (⟨#[]⟩ ++ a3)).2.2 with
      | false => rw [getRow_no hg]; simp
      | true =>
        obtain ⟨l, r, b, hl⟩ : ∃ l r b, getRow (⟨#[]⟩ ++ a3) = (l, r, b) := ⟨_, _, _, rfl⟩
        rw [hl] at hg ⊢
        simp only at hg
        subst hg
        have := (getRow_got hl).1
        simp only
        omega)
    refine ⟨K5 + 1, fun k hk => ?_⟩
    obtain ⟨m, rfl⟩ : ∃ m, k = m + 1 := ⟨k - 1, by omega⟩
    simp only [sextonlaw01_CodecBack.j1]
    rw [if_neg (by decide), text_f, if_pos (by omega)]
    simp only [Option.bind_some]
    rw [if_pos (by omega), getText_f, getText_put a1 (by omega), row_f, if_pos hr]
    simp only [Option.bind_some]
    rw [if_pos (by show 0 + _ ≤ _; omega)]
    simp only [codec_GetRow.f, Option.bind_some, laid_true]
    simp
  · by_cases ha : ∀ s ∈ l2, s.size ≤ 4000
    · have hcs := catStr_size l2 ha
      have hns := numStr_size (l2.length : Int)
      obtain ⟨K5, e5⟩ := refTexts l2 l2 (by omega)
      simp only at e5
      refine ⟨K5 + 1, fun k hk => ?_⟩
      obtain ⟨m, rfl⟩ : ∃ m, k = m + 1 := ⟨k - 1, by omega⟩
      simp only [sextonlaw01_CodecBack.j1]
      rw [if_neg (by decide), text_f, if_pos (by omega)]
      simp only [Option.bind_some]
      rw [if_pos (by omega), getText_f, getText_put a1 (by omega), row_f, if_neg hr, if_pos ((all_le l2).2 ha)]
      simp only [Option.bind_some]
      rw [if_pos (by unfold rowStr; rw [CodecPlain.size_append]; omega)]
      simp only [codec_GetRow.f, Option.bind_some, laid_true, getRow_put l2 (by omega) ha]
      rw [e5 _ (by omega)]
      simp
    · obtain ⟨K5, e5⟩ := refTexts (getRow (⟨#[]⟩ ++ a3)).1 l2 (by
        cases hg : (getRow (⟨#[]⟩ ++ a3)).2.2 with
        | false => rw [getRow_no hg]; simp
        | true =>
          obtain ⟨l, r, b, hl⟩ : ∃ l r b, getRow (⟨#[]⟩ ++ a3) = (l, r, b) := ⟨_, _, _, rfl⟩
          rw [hl] at hg ⊢
          simp only at hg
          subst hg
          have := (getRow_got hl).1
          simp only
          omega)
      refine ⟨K5 + 1, fun k hk => ?_⟩
      obtain ⟨m, rfl⟩ : ∃ m, k = m + 1 := ⟨k - 1, by omega⟩
      simp only [sextonlaw01_CodecBack.j1]
      rw [if_neg (by decide), text_f, if_pos (by omega)]
      simp only [Option.bind_some]
      rw [if_pos (by omega), getText_f, getText_put a1 (by omega), row_f, if_neg hr, if_neg (fun h => ha ((all_le l2).1 h))]
      simp only [Option.bind_some]
      rw [if_pos (by show 0 + _ ≤ _; omega)]
      simp only [codec_GetRow.f, Option.bind_some, laid_true]
      simp

theorem CodecBack (a0 : Int) (a1 : ByteArray) (l2 : (List ByteArray)) (a3 : ByteArray) (h0 : OkInt .i64 a0) (h1 : OkStr a1) (h2 : (OkList OkStr) l2) (h3 : OkStr a3) :
    ∃ k, sextonlaw01_CodecBack.f k a0 a1 l2 a3 = some true := by
  obtain ⟨K0, e0⟩ := short_ev [a1, a3] (by simp)
  simp only at e0
  by_cases hs : a1.size ≤ 300 ∧ a3.size ≤ 300
  · have hsv : ([a1, a3].all fun s => decide (s.size ≤ 300)) = true := by simp [hs.1, hs.2]
    rw [hsv] at e0
    obtain ⟨K1, e1⟩ := far_ev l2
    simp only at e1
    cases hf : farB l2 with
    | true =>
      refine ⟨K0 + K1 + 1, ?_⟩
      unfold sextonlaw01_CodecBack.f
      rw [e0 _ (by omega), e1 _ (by omega), hf]
      simp [sextonlaw01_CodecBack.j0]
    | false =>
      obtain ⟨K2, e2⟩ := back1 a1 l2 a3 hs.1 hs.2 hf
      refine ⟨K0 + K1 + K2 + 1, ?_⟩
      unfold sextonlaw01_CodecBack.f
      rw [e0 _ (by omega), e1 _ (by omega), hf]
      have e2' := e2 (K0 + K1 + K2) (by omega)
      simp only [Option.bind_some, if_true, sextonlaw01_CodecBack.j0]
      rw [if_neg (by decide), num_f]
      simp only [Option.bind_some]
      by_cases hn : 0 ≤ a0 ∧ a0 ≤ 4294967295
      · have hns := numStr_size a0
        rw [if_pos hn, if_pos (by show (numStr a0).size + _ ≤ _; omega)]
        simp only [codec_GetNumber.f, Option.bind_some, getNum_put a0 hn.1 hn.2]
        have hb : (((0 : Int) == 0) != decide (a0 ≤ 4294967295)) = false := by simp [hn.2]
        rw [if_pos trivial, if_pos trivial, if_pos trivial, if_pos trivial, if_pos hn.1, hb]
        exact e2'
      · rw [if_neg hn, if_pos (by show 0 + _ ≤ _; omega)]
        simp only [codec_GetNumber.f, Option.bind_some]
        rw [if_neg (by decide)]
        by_cases hge : a0 ≥ 0
        · rw [if_pos hge, decide_eq_false (by omega)]
          exact e2'
        · rw [if_neg hge]
          exact e2'
  · have hsv : ([a1, a3].all fun s => decide (s.size ≤ 300)) = false := by
      rw [Bool.eq_false_iff]; intro h; simp at h; exact hs h
    rw [hsv] at e0
    refine ⟨K0 + 1, ?_⟩
    unfold sextonlaw01_CodecBack.f
    rw [e0 _ (by omega)]
    simp [sextonlaw01_CodecBack.j0]
end Go.Proofs.Ytnkakhcombmdoaa.Pure
