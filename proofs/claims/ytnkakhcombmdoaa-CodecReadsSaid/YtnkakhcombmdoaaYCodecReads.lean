/-
  The plain statement of CodecReads: bytes begin with just this number, text and row, or with none.
-/
import Derived.Test.YtnkakhcombmdoaaLcodecGetRef
import Derived.Test.YtnkakhcombmdoaaMOpens
import Derived.Test.YtnkakhcombmdoaaFsextonlaw01CodecReads
namespace Go.Proofs.Ytnkakhcombmdoaa.Pure
open Go.RowKit Go.Proofs.CodecPlain Go.Proofs.YtnkakhcombmdoaaW.PrintWords Go.Proofs.YtnkakhcombmdoaaW.PrintLast Go.Proofs.Ytnkakhcombmdoaa.P Go.Proofs.Ytnkakhcombmdoaa.Opens

theorem CodecReads (a0 : ByteArray) (h0 : OkStr a0) :
    ∃ k, sextonlaw01_CodecReads.f k a0 = some true := by
  by_cases hs : (a0.size : Int) > 1000
  · exact ⟨0, by unfold sextonlaw01_CodecReads.f; rw [if_pos hs]⟩
  · obtain ⟨K1, e1⟩ := refGetNumber a0
    obtain ⟨K2, e2⟩ := refGetText a0
    obtain ⟨K3, e3⟩ := refGetRow a0
    have hl : (getRow a0).1.length ≤ 1000 := by
      obtain ⟨l, r, b, hl⟩ : ∃ l r b, getRow a0 = (l, r, b) := ⟨_, _, _, rfl⟩
      cases b with
      | true => rw [hl]; exact (getRow_got hl).1
      | false => rw [getRow_no (by rw [hl])]; simp
    obtain ⟨K4, e4⟩ := refTexts (getRow a0).1 (getRow a0).1 (by omega)
    simp only at e1 e2 e3 e4
    refine ⟨K1 + K2 + K3 + K4, ?_⟩
    unfold sextonlaw01_CodecReads.f
    rw [if_neg hs, e1 _ (by omega), e2 _ (by omega), e3 _ (by omega), getText_f, laid_true]
    simp only [codec_GetNumber.f, codec_GetRow.f, Option.bind_some]
    rw [e4 _ (by omega)]
    simp
end Go.Proofs.Ytnkakhcombmdoaa.Pure
