/-
  Plain laws on reading texts and rows: no program in sight.
-/
import Derived.Test.YtnkakhcombmdoaaMcodecGet
namespace Go.Proofs.CodecPlain

/-- What reads as a text at the begin of bytes. -/
def getText (s : ByteArray) : ByteArray × ByteArray × Bool :=
  if (getNum s).2.2 = true ∧ (getNum s).1 ≤ 4000 ∧ (getNum s).1 ≤ ((getNum s).2.1.size : Int) then
    ((getNum s).2.1.extract 0 (getNum s).1.toNat, (getNum s).2.1.extract (getNum s).1.toNat (getNum s).2.1.size, true)
  else (⟨#[]⟩, ⟨#[]⟩, false)
/-- What reads as n texts, one behind the other. -/
def getTexts : Nat → ByteArray → List ByteArray × ByteArray × Bool
  | 0, s => ([], s, true)
  | n + 1, s => if (getText s).2.2 = true then
      (if (getTexts n (getText s).2.1).2.2 = true then ((getText s).1 :: (getTexts n (getText s).2.1).1, (getTexts n (getText s).2.1).2.1, true) else ([], ⟨#[]⟩, false))
    else ([], ⟨#[]⟩, false)
/-- What reads as a row at the begin of bytes. -/
def getRow (s : ByteArray) : List ByteArray × ByteArray × Bool :=
  if (getNum s).2.2 = true ∧ (getNum s).1 ≤ 1000 then getTexts (getNum s).1.toNat (getNum s).2.1 else ([], ⟨#[]⟩, false)
/-- What is told where some have been read. -/
def withL (l : List ByteArray) (r : List ByteArray × ByteArray × Bool) : List ByteArray × ByteArray × Bool := if r.2.2 = true then (l ++ r.1, r.2.1, true) else ([], ⟨#[]⟩, false)

theorem getNum_bd (s : ByteArray) : 0 ≤ (getNum s).1 ∧ (getNum s).1 < 4294967296 := by
  unfold getNum
  split
  · exact ⟨by decide, by decide⟩
  · split
    · exact ⟨by decide, by decide⟩
    · rename_i h _
      have h1 := accB_bd (s.extract 1 (1 + hd s)).data.toList
      have hl : (s.extract 1 (1 + hd s)).data.toList.length = hd s := by
        rw [Array.length_toList]
        show (s.extract 1 (1 + hd s)).size = _
        rw [ByteArray.size_extract]; omega
      rw [hl] at h1
      refine ⟨h1.1, Int.lt_of_lt_of_le h1.2 ?_⟩
      have : hd s ≤ 4 := by omega
      match hd s, this with
      | 0, _ => decide
      | 1, _ => decide
      | 2, _ => decide
      | 3, _ => decide
      | 4, _ => decide
theorem getTexts_len : ∀ (n : Nat) (s : ByteArray), (getTexts n s).2.2 = true → (getTexts n s).1.length = n
  | 0, s, _ => rfl
  | n + 1, s, h => by
    unfold getTexts at h ⊢
    split at h
    · rename_i h1
      rw [if_pos h1]
      split at h
      · rename_i h2
        rw [if_pos h2]
        simp [getTexts_len n _ h2]
      · cases h
    · cases h
theorem withL_stop (l : List ByteArray) (n : Nat) (s : ByteArray) (h : (getText s).2.2 = false) : withL l (getTexts (n + 1) s) = ([], ⟨#[]⟩, false) := by
  simp [getTexts, h, withL]
theorem withL_step (l : List ByteArray) (n : Nat) (s : ByteArray) (h : (getText s).2.2 = true) : withL l (getTexts (n + 1) s) = withL (l ++ [(getText s).1]) (getTexts n (getText s).2.1) := by
  by_cases h2 : (getTexts n (getText s).2.1).2.2 = true <;> simp [getTexts, h, withL, h2]
theorem withL_nil (n : Nat) (s : ByteArray) : withL [] (getTexts n s) = getTexts n s := by
  cases n with
  | zero => simp [withL, getTexts]
  | succ n =>
    unfold getTexts
    split
    · split <;> simp [withL]
    · simp [withL]

end Go.Proofs.CodecPlain
