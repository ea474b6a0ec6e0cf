/-
  Texts that the claims of this chapter share, joined.
-/
import Derived.Test.YtkgcaheddhfpgaaC05e
set_option linter.unusedVariables false
set_option linter.unusedSimpArgs false
/-
  What is left of a twin behind a Stop and a crash, plainly.
-/
namespace Go.Proofs.Ytkgcaheddhfpgaa.P
open Go.RowKit Go.Proofs Go.Proofs.CodecPlain Go.Proofs.YtkgcaheddhfpgaaW.PrintWords Go.Proofs.YtkgcaheddhfpgaaW.PrintLast Go.Proofs.Plain

theorem TwinAt.crash {l0 : List ByteArray} {a n0 n1 : Int} {t0 t1 : ByteArray} {k0 k1 : Bool} (h : TwinAt l0 [] a n0 t0 k0 n1 t1 k1) {s : ByteArray} (hs : s.size ≤ 200) (hn : newN n0 k0 n1 k1 < 1000000000) (deeds : Int) (p : Int → Bool) :
    ∃ b u d c, stopV l0 [] a s deeds = (b, u, d, 0) ∧ doneV p b u = (c, [], 0) ∧ ((∃ m0 u0 j0 m1 u1 j1, TwinAt c [] a m0 u0 j0 m1 u1 j1 ∧ newN m0 j0 m1 j1 = newN n0 k0 n1 k1 + 1 ∧ newT m0 u0 j0 m1 u1 j1 = s) ∨ (d = false ∧ c = l0)) := by
  have hst := h.stop s deeds
  rw [if_neg (by omega), if_neg (by simp)] at hst
  obtain ⟨k1', k2'⟩ := h.stopped s hs (by simp)
  rw [List.nil_append] at hst k1'
  have hset : (contW l0 ([] : List S73)).set (nextAt a n0 k0 n1 k1).toNat (frameOf (numStr (newN n0 k0 n1 k1 + 1) ++ s)) = l0.set (nextAt a n0 k0 n1 k1).toNat (frameOf (numStr (newN n0 k0 n1 k1 + 1) ++ s)) := rfl
  by_cases h0 : deeds = 0
  · rw [if_pos h0] at hst
    refine ⟨_, _, _, l0, hst, ?_, Or.inr ⟨rfl, rfl⟩⟩
    unfold doneV
    rw [if_pos h.check]
    rfl
  · rw [if_neg h0] at hst
    by_cases h1 : deeds = 1
    · rw [if_pos h1] at hst
      by_cases hp : p 0 = true
      · refine ⟨_, _, _, l0.set (nextAt a n0 k0 n1 k1).toNat (frameOf (numStr (newN n0 k0 n1 k1 + 1) ++ s)), hst, ?_, Or.inl (h.next hs hn k2' rfl)⟩
        unfold doneV
        rw [if_pos k1']
        simp only [applyW]
        rw [show p ((0 : Nat) : Int) = true from hp, if_pos rfl]
      · refine ⟨_, _, _, l0, hst, ?_, Or.inr ⟨rfl, rfl⟩⟩
        unfold doneV
        rw [if_pos k1']
        simp only [applyW]
        rw [show p ((0 : Nat) : Int) = false by simpa using hp, if_neg (by decide)]
    · rw [if_neg h1] at hst
      refine ⟨_, _, _, l0.set (nextAt a n0 k0 n1 k1).toNat (frameOf (numStr (newN n0 k0 n1 k1 + 1) ++ s)), hst, ?_, Or.inl (h.next hs hn k2' rfl)⟩
      unfold doneV
      rw [if_pos k2']
      rfl
end Go.Proofs.Ytkgcaheddhfpgaa.P
