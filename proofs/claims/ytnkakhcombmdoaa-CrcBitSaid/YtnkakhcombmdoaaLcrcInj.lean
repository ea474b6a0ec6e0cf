/-
  The sum tells texts apart that are not the same at one byte (for CrcBit).
-/
import Derived.Test.YtnkakhcombmdoaaLcrcRef
namespace Go.Proofs.Ytnkakhcombmdoaa.C
open Go.RowKit Go.Proofs.CodecPlain Go.Proofs.YtnkakhcombmdoaaW.PrintWords Go.Proofs.YtnkakhcombmdoaaW.PrintLast Go.Proofs.Ytnkakhcombmdoaa.P Go.Proofs.Ytnkakhcombmdoaa.B

theorem xor_cancel {a b c : Nat} (h : a ^^^ c = b ^^^ c) : a = b := by
  have h2 : (a ^^^ c) ^^^ c = (b ^^^ c) ^^^ c := by rw [h]
  rw [Nat.xor_assoc, Nat.xor_assoc, Nat.xor_self, Nat.xor_zero, Nat.xor_zero] at h2
  exact h2
theorem gN_top {x : Nat} (h : x < 2 ^ 32) : (gN x).testBit 31 = decide (x % 2 = 1) := by
  unfold gN
  have h0 : (x / 2).testBit 31 = false := Nat.testBit_lt_two_pow (by omega)
  rw [Nat.testBit_xor, h0]
  by_cases hx : x % 2 = 1
  · rw [if_pos hx, decide_eq_true hx]; decide
  · rw [if_neg hx, decide_eq_false hx]; simp
theorem gN_inj {x y : Nat} (hx : x < 2 ^ 32) (hy : y < 2 ^ 32) (h : gN x = gN y) : x = y := by
  have ht := gN_top hx
  rw [h, gN_top hy] at ht
  have hp : (x % 2 = 1) ↔ (y % 2 = 1) := by
    by_cases h1 : x % 2 = 1 <;> by_cases h2 : y % 2 = 1 <;> simp [h1, h2] at ht ⊢
  unfold gN at h
  by_cases h1 : x % 2 = 1
  · rw [if_pos h1, if_pos (hp.1 h1)] at h
    have := xor_cancel h
    have := hp.1 h1
    omega
  · rw [if_neg h1, if_neg (fun e => h1 (hp.2 e)), Nat.xor_zero, Nat.xor_zero] at h
    have : ¬ y % 2 = 1 := fun e => h1 (hp.2 e)
    omega
theorem gI_inj {x y : Nat} (hx : x < 2 ^ 32) (hy : y < 2 ^ 32) : ∀ n, gI n x = gI n y → x = y
  | 0, h => h
  | n + 1, h => gI_inj hx hy n (gN_inj (gI_lt hx n) (gI_lt hy n) h)
theorem stepV_c {c d : Int} (hc : In32 c) (hd : In32 d) (b : Nat) (hb : b < 256) (h : stepV c (b : Int) = stepV d (b : Int)) : c = d := by
  unfold In32 at hc hd
  obtain ⟨m, rfl⟩ : ∃ m : Nat, c = m := ⟨c.toNat, by omega⟩
  obtain ⟨n, rfl⟩ : ∃ n : Nat, d = n := ⟨d.toNat, by omega⟩
  rw [stepV_nat m b (by omega) hb, stepV_nat n b (by omega) hb] at h
  have h2 := gI_inj (Nat.xor_lt_two_pow (n := 32) (by omega) (by omega)) (Nat.xor_lt_two_pow (n := 32) (by omega) (by omega)) 8 (Int.ofNat.inj h)
  rw [xor_cancel h2]
theorem stepV_b {c : Int} (hc : In32 c) (a b : Nat) (ha : a < 256) (hb : b < 256) (h : stepV c (a : Int) = stepV c (b : Int)) : a = b := by
  unfold In32 at hc
  obtain ⟨m, rfl⟩ : ∃ m : Nat, c = m := ⟨c.toNat, by omega⟩
  rw [stepV_nat m a (by omega) ha, stepV_nat m b (by omega) hb] at h
  have h2 := gI_inj (Nat.xor_lt_two_pow (n := 32) (by omega) (by omega)) (Nat.xor_lt_two_pow (n := 32) (by omega) (by omega)) 8 (Int.ofNat.inj h)
  rw [Nat.xor_comm m a, Nat.xor_comm m b] at h2
  exact xor_cancel h2
theorem sumC_inj : ∀ (l : List UInt8) {c d : Int}, In32 c → In32 d → sumC l c = sumC l d → c = d
  | [], c, d, _, _, h => h
  | b :: l, c, d, hc, hd, h => stepV_c hc hd b.toNat b.toNat_lt (sumC_inj l (stepV_rng hc) (stepV_rng hd) h)
theorem sumC_app (l m : List UInt8) (c : Int) : sumC (l ++ m) c = sumC m (sumC l c) := by simp [sumC, List.foldl_append]
theorem sumC_ne (p q : List UInt8) (a b : UInt8) (h : a ≠ b) {c : Int} (hc : In32 c) : sumC (p ++ a :: q) c ≠ sumC (p ++ b :: q) c := by
  intro e
  rw [sumC_app, sumC_app] at e
  have e2 := sumC_inj q (stepV_rng (sumC_rng p hc)) (stepV_rng (sumC_rng p hc)) e
  have := stepV_b (sumC_rng p hc) a.toNat b.toNat a.toNat_lt b.toNat_lt e2
  exact h (UInt8.toNat_inj.1 this)
/-- Texts that are not the same at one byte have sums that are not the same. -/
theorem sumV_ne {s t : ByteArray} (p q : List UInt8) (a b : UInt8) (h : a ≠ b) (hs : s.data.toList = p ++ a :: q) (ht : t.data.toList = p ++ b :: q) : sumV s ≠ sumV t := by
  have hne := sumC_ne p q a b h (c := 4294967295) ⟨by omega, by omega⟩
  rw [← hs, ← ht] at hne
  have h1 := sumC_rng s.data.toList (c := 4294967295) ⟨by omega, by omega⟩
  have h2 := sumC_rng t.data.toList (c := 4294967295) ⟨by omega, by omega⟩
  unfold sumV
  generalize sumC s.data.toList 4294967295 = x at *
  generalize sumC t.data.toList 4294967295 = y at *
  unfold In32 at h1 h2
  obtain ⟨m, rfl⟩ : ∃ m : Nat, x = m := ⟨x.toNat, by omega⟩
  obtain ⟨n, rfl⟩ : ∃ n : Nat, y = n := ⟨y.toNat, by omega⟩
  rw [show (4294967295 : Int) = ((4294967295 : Nat) : Int) from rfl, xor_nat m _ (by omega) (by decide), xor_nat n _ (by omega) (by decide)]
  intro e
  exact hne (by rw [xor_cancel (Int.ofNat.inj e)])
end Go.Proofs.Ytnkakhcombmdoaa.C
