/-
  The plain statement of CodecLays: a number, a text and a row have just these bytes, or are refused.
-/
import Derived.Test.YtnkakhcombmdoaaLcodecFar
import Derived.Test.YtnkakhcombmdoaaLcodec
import Derived.Test.YtnkakhcombmdoaaMOpens
import Derived.Test.YtnkakhcombmdoaaFsextonlaw01CodecLays
namespace Go.Proofs.Ytnkakhcombmdoaa.Pure
open Go.RowKit Go.Proofs.CodecPlain Go.Proofs.YtnkakhcombmdoaaW.PrintWords Go.Proofs.YtnkakhcombmdoaaW.PrintLast Go.Proofs.Ytnkakhcombmdoaa.P Go.Proofs.Ytnkakhcombmdoaa.Opens

theorem CodecLays (a0 : Int) (a1 : ByteArray) (l2 : (List ByteArray)) (h0 : OkInt .i64 a0) (h1 : OkStr a1) (h2 : (OkList OkStr) l2) :
    ∃ k, sextonlaw01_CodecLays.f k a0 a1 l2 = some true := by
  by_cases hs : (a1.size : Int) > 5000
  · refine ⟨1, ?_⟩
    unfold sextonlaw01_CodecLays.f
    rw [if_pos hs]
    simp [sextonlaw01_CodecLays.j0]
  · obtain ⟨K1, e1⟩ := far_ev l2
    simp only at e1
    cases hf : farB l2 with
    | true =>
      refine ⟨K1 + 1, ?_⟩
      unfold sextonlaw01_CodecLays.f
      rw [if_neg hs, e1 _ (by omega), hf]
      simp [sextonlaw01_CodecLays.j0]
    | false =>
      have hlen := far_len hf
      obtain ⟨K2, e2⟩ := refNumber a0
      simp only at e2
      obtain ⟨K3, e3⟩ := refText a1
      simp only at e3
      obtain ⟨K4, e4⟩ := refRow l2
      simp only at e4
      obtain ⟨K5, e5⟩ := refTexts l2 l2 (by omega)
      simp only at e5
      refine ⟨K1 + K2 + K3 + K4 + K5 + 1, ?_⟩
      unfold sextonlaw01_CodecLays.f
      rw [if_neg hs, e1 _ (by omega), hf]
      simp only [Option.bind_some, sextonlaw01_CodecLays.j0]
      rw [if_neg (by decide), refOwn l2 (by omega)]
      simp only [Option.bind_some]
      rw [e2 _ (by omega), e3 _ (by omega), e4 _ (by omega), e5 _ (by omega), num_f, text_f, row_f, laid_true]
      simp
end Go.Proofs.Ytnkakhcombmdoaa.Pure
