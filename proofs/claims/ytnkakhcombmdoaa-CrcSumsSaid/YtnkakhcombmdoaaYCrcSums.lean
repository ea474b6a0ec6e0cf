/-
  The plain statement of CrcSums: a text has just this sum, a number's step is this one, and this is its frame, or it is refused.
-/
import Derived.Test.YtnkakhcombmdoaaLcrcRef
import Derived.Test.YtnkakhcombmdoaaLcrcBase2
import Derived.Test.YtnkakhcombmdoaaMOpens
import Derived.Test.YtnkakhcombmdoaaFsextonlaw03CrcSums
namespace Go.Proofs.Ytnkakhcombmdoaa.Pure
open Go.RowKit Go.Proofs.CodecPlain Go.Proofs.YtnkakhcombmdoaaW.PrintWords Go.Proofs.YtnkakhcombmdoaaW.PrintLast Go.Proofs.Ytnkakhcombmdoaa.P Go.Proofs.Ytnkakhcombmdoaa.B Go.Proofs.Ytnkakhcombmdoaa.C Go.Proofs.Ytnkakhcombmdoaa.Opens

theorem refPut (s : ByteArray) : Ev (fun k => sextonref03_Put.f k s) (if s.size ≤ 4000 then (frameOf s, 0) else (⟨#[]⟩, 2)) := by
  have ht := refText s
  by_cases h : s.size ≤ 4000
  · rw [if_pos h] at ht ⊢
    obtain ⟨K1, e1⟩ := ht
    obtain ⟨K2, e2⟩ := sum_ev s (by omega)
    simp only at e1 e2
    refine ⟨K1 + K2, fun k hk => ?_⟩
    show sextonref03_Put.f k s = _
    unfold sextonref03_Put.f
    rw [e1 k (by omega)]
    simp only [Option.bind_some, if_true]
    rw [e2 k (by omega)]
    simp only [Option.bind_some]
    rw [four_f _ (sumV_rng s)]
    simp only [Option.bind_some]
    rw [if_pos (by have := textStr_size s; rw [four_size]; omega)]
    rfl
  · rw [if_neg h] at ht ⊢
    obtain ⟨K1, e1⟩ := ht
    simp only at e1
    refine ⟨K1, fun k hk => ?_⟩
    show sextonref03_Put.f k s = _
    unfold sextonref03_Put.f
    rw [e1 k (by omega)]
    simp only [Option.bind_some]
    rw [if_neg (by decide)]
theorem sums_no (s : ByteArray) (c : Int) (b : Nat) (hb : b < 256) (hs : s.size ≤ 4100) : Ev (fun k => sextonlaw03_CrcSums.j0 k s c (b : Int) false) true := by
  obtain ⟨K1, e1⟩ := step_ev c b hb
  obtain ⟨K2, e2⟩ := refPut s
  obtain ⟨K3, e3⟩ := summed_ev
  obtain ⟨K4, e4⟩ := sum_ev s (by omega)
  simp only at e1 e2 e3 e4
  have e0 : crc_Step.f c (b : Int) = some (if 0 ≤ c ∧ c ≤ 4294967295 then (stepV c (b : Int), true) else (0, false)) := by unfold crc_Step.f; rw [if_pos (by omega)]
  have e5 : crc_Sum.f s = some (sumV s) := by unfold crc_Sum.f; rw [if_pos (by omega)]
  refine ⟨K1 + K2 + K3 + K4 + 1, fun k hk => ?_⟩
  obtain ⟨m, rfl⟩ : ∃ m, k = m + 1 := ⟨k - 1, by omega⟩
  simp only [sextonlaw03_CrcSums.j0]
  rw [if_neg (by decide), e0, e1 m (by omega), put_f, e2 m (by omega), e3 m (by omega), e5, e4 m (by omega)]
  simp
theorem sums_yes (s : ByteArray) (c b : Int) : sextonlaw03_CrcSums.j0 1 s c b true = some true := by simp [sextonlaw03_CrcSums.j0]

theorem CrcSums (a0 : ByteArray) (a1 : Int) (a2 : Int) (h0 : OkStr a0) (h1 : OkInt .i64 a1) (h2 : OkInt .u8 a2) :
    ∃ k, sextonlaw03_CrcSums.f k a0 a1 a2 = some true := by
  have hb : 0 ≤ a2 ∧ a2 < 256 := by
    have h3 : (decide (IntKind.min .u8 ≤ a2) && decide (a2 ≤ IntKind.max .u8)) = true := h2
    rw [show IntKind.min .u8 = 0 from rfl, show IntKind.max .u8 = 255 from rfl] at h3
    simp at h3
    omega
  obtain ⟨b, rfl⟩ : ∃ b : Nat, a2 = b := ⟨a2.toNat, by omega⟩
  clear h0 h1 h2
  unfold sextonlaw03_CrcSums.f
  by_cases h4 : (a0.size : Int) > 400
  · simp only [if_pos h4]
    by_cases h5 : (a0.size : Int) ≤ 4000
    · simp only [if_pos h5]
      exact ⟨1, sums_yes _ _ _⟩
    · simp only [if_neg h5]
      by_cases h6 : (a0.size : Int) > 4100
      · exact ⟨1, by rw [decide_eq_true h6]; exact sums_yes _ _ _⟩
      · obtain ⟨K, e⟩ := sums_no a0 a1 b (by omega) (by omega)
        exact ⟨K, by rw [decide_eq_false h6]; exact e K (Nat.le_refl _)⟩
  · simp only [if_neg h4]
    by_cases h6 : (a0.size : Int) > 4100
    · omega
    · obtain ⟨K, e⟩ := sums_no a0 a1 b (by omega) (by omega)
      exact ⟨K, by rw [decide_eq_false h6]; exact e K (Nat.le_refl _)⟩
end Go.Proofs.Ytnkakhcombmdoaa.Pure
