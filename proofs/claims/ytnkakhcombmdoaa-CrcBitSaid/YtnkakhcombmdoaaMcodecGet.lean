/-
  Plain laws on reading a number's bytes: no program in sight.
-/
import Derived.Test.YtnkakhcombmdoaaMcodecPlain
namespace Go.Proofs.CodecPlain

/-- The number that bytes say, the highest first. -/
def accB (l : List UInt8) : Int := l.foldl (fun a b => a * 256 + (b.toNat : Int)) 0
theorem accB_snoc (l : List UInt8) (b : UInt8) : accB (l ++ [b]) = accB l * 256 + (b.toNat : Int) := by simp [accB]
theorem accB_from (l : List UInt8) : ∀ a : Int, 0 ≤ a → 0 ≤ l.foldl (fun a b => a * 256 + (b.toNat : Int)) a ∧ l.foldl (fun a b => a * 256 + (b.toNat : Int)) a < (a + 1) * 256 ^ l.length := by
  induction l with
  | nil => intro a h; simp; omega
  | cons b l ih =>
    intro a h
    have hb := b.toNat_lt
    have h1 := ih (a * 256 + (b.toNat : Int)) (by omega)
    rw [List.foldl_cons, List.length_cons, Int.pow_succ]
    refine ⟨h1.1, Int.lt_of_lt_of_le h1.2 ?_⟩
    rw [Int.mul_comm (256 ^ l.length) 256, ← Int.mul_assoc]
    exact Int.mul_le_mul_of_nonneg_right (by omega) (Int.le_of_lt (Int.pow_pos (by omega)))
theorem accB_bd (l : List UInt8) : 0 ≤ accB l ∧ accB l < 256 ^ l.length := by
  have := accB_from l 0 (by omega)
  simpa [accB] using this

/-- The first byte of bytes. -/
def hd (s : ByteArray) : Nat := if h : 0 < s.size then (s[0]'h).toNat else 0

/-- What reads as a number at the begin of bytes: it, what stands behind, and whether there is one. -/
def getNum (s : ByteArray) : Int × ByteArray × Bool :=
  if s.size = 0 ∨ 4 < hd s ∨ s.size ≤ hd s then (0, ⟨#[]⟩, false)
  else if hd s ≠ 0 ∧ hd (s.extract 1 (1 + hd s)) = 0 then (0, ⟨#[]⟩, false)
  else (accB (s.extract 1 (1 + hd s)).data.toList, s.extract (1 + hd s) s.size, true)

end Go.Proofs.CodecPlain
