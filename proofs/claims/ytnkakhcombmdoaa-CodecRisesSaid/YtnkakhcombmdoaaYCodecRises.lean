/-
  The plain statement of CodecRises: greater numbers have bytes that are no fewer, and stand behind. No condition but that the numbers are ints.
-/
import Derived.Test.YtnkakhcombmdoaaMcodecRise
import Derived.Test.YtnkakhcombmdoaaLcodec
import Derived.Test.YtnkakhcombmdoaaMOpens
import Derived.Test.YtnkakhcombmdoaaFsextonlaw01CodecRises
namespace Go.Proofs.Ytnkakhcombmdoaa.Pure
open Go.RowKit Go.Proofs.CodecPlain Go.Proofs.YtnkakhcombmdoaaW.PrintWords Go.Proofs.YtnkakhcombmdoaaW.PrintLast Go.Proofs.Ytnkakhcombmdoaa.P Go.Proofs.Ytnkakhcombmdoaa.Opens

theorem CodecRises (a0 : Int) (a1 : Int) (h0 : OkInt .i64 a0) (h1 : OkInt .i64 a1) :
    ∃ k, sextonlaw01_CodecRises.f k a0 a1 = some true := by
  refine ⟨1, ?_⟩
  unfold sextonlaw01_CodecRises.f
  rw [num_f, num_f]
  simp only [Option.bind_some]
  by_cases hn : 0 ≤ a0 ∧ a0 ≤ 4294967295
  · by_cases hm : 0 ≤ a1 ∧ a1 ≤ 4294967295
    · rw [if_pos hn, if_pos hm]
      simp only [sextonlaw01_CodecRises.j0, laid_true, Option.bind_some, if_true]
      have hr := rises (n := a0) (m := a1) hn.1 (by omega) hm.1 (by omega)
      rw [← ByteArray.toList_eq, ← ByteArray.toList_eq] at hr
      have he : ((numStr a0).toList == (numStr a1).toList) = (a0 == a1) := by
        by_cases e : a0 = a1
        · subst e; simp
        · have : ¬ (numStr a0).toList = (numStr a1).toList := fun h => e (numStr_inj hn.1 hn.2 hm.1 hm.2 (toList_inj h))
          rw [beq_eq_false_iff_ne.mpr this, beq_eq_false_iff_ne.mpr e]
      have hlen : a0 ≤ a1 → (numStr a0).size ≤ (numStr a1).size := by
        intro hle
        rw [numStr_sz, numStr_sz]
        by_cases hl : (nbytes a1).length < (nbytes a0).length
        · have := len_lt hm.1 (by omega) hn.1 (by omega) hl; omega
        · omega
      rw [hr, he]
      by_cases hg : a0 > a1
      · simp [hg]
      · have := hlen (by omega)
        simp [hg]
        omega
    · rw [if_pos hn, if_neg hm]
      simp [sextonlaw01_CodecRises.j0, laid_true]
  · rw [if_neg hn]
    simp [sextonlaw01_CodecRises.j0, laid_true]
end Go.Proofs.Ytnkakhcombmdoaa.Pure
