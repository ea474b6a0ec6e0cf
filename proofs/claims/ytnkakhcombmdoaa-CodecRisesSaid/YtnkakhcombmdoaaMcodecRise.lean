/-
  Plain laws: greater numbers' bytes stand behind.
-/
import Derived.Test.YtnkakhcombmdoaaMcodecLaw
import GoSem.Op.String
namespace Go.Proofs.CodecPlain

/-- What is told of bytes, a number having come. -/
def accF (a : Int) (l : List UInt8) : Int := l.foldl (fun a b => a * 256 + (b.toNat : Int)) a
theorem accF_lo (l : List UInt8) : ∀ a : Int, a * 256 ^ l.length ≤ accF a l := by
  induction l with
  | nil => intro a; simp [accF]
  | cons b l ih =>
    intro a
    have h1 := ih (a * 256 + (b.toNat : Int))
    unfold accF at h1 ⊢
    rw [List.foldl_cons, List.length_cons, Int.pow_succ]
    refine Int.le_trans ?_ h1
    rw [Int.mul_comm (256 ^ l.length) 256, ← Int.mul_assoc]
    exact Int.mul_le_mul_of_nonneg_right (by omega) (Int.le_of_lt (Int.pow_pos (by omega)))
theorem accF_lt (x y : List UInt8) (hl : x.length = y.length) (a b : Int) (ha : 0 ≤ a) (h : a < b) : accF a x < accF b y := by
  have h1 := (accB_from x a ha).2
  have h2 := accF_lo y b
  refine Int.lt_of_lt_of_le h1 (Int.le_trans ?_ h2)
  rw [hl]
  exact Int.mul_le_mul_of_nonneg_right (by omega) (Int.le_of_lt (Int.pow_pos (by omega)))
theorem less_acc (x : List UInt8) : ∀ (y : List UInt8) (a : Int), x.length = y.length → 0 ≤ a → Op.bytesLess x y = decide (accF a x < accF a y) := by
  induction x with
  | nil => intro y a hl _; cases y with | nil => simp [Op.bytesLess, accF] | cons _ _ => simp at hl
  | cons b x ih =>
    intro y a hl ha
    cases y with
    | nil => simp at hl
    | cons c y =>
      have hl' : x.length = y.length := by simpa using hl
      have e1 : accF a (b :: x) = accF (a * 256 + (b.toNat : Int)) x := rfl
      have e2 : accF a (c :: y) = accF (a * 256 + (c.toNat : Int)) y := rfl
      rw [e1, e2]
      unfold Op.bytesLess
      rcases Nat.lt_trichotomy b.toNat c.toNat with h | h | h
      · have h1 : (b < c) := UInt8.lt_iff_toNat_lt.2 h
        rw [decide_eq_true (accF_lt x y hl' _ _ (by omega) (by omega : a * 256 + (b.toNat : Int) < a * 256 + (c.toNat : Int)))]
        simp [h1]
      · have h1 : b = c := UInt8.toNat_inj.1 h
        subst h1
        have h2 : ¬ b < b := UInt8.lt_irrefl b
        rw [ih y (a * 256 + (b.toNat : Int)) hl' (by omega)]
        simp [h2]
      · have h1 : ¬ b < c := fun z => by have := UInt8.lt_iff_toNat_lt.1 z; omega
        have h2 : ¬ b = c := fun z => by rw [z] at h; omega
        have h3 := accF_lt y x hl'.symm (a * 256 + (c.toNat : Int)) (a * 256 + (b.toNat : Int)) (by omega) (by omega)
        have hd : decide (accF (a * 256 + (b.toNat : Int)) x < accF (a * 256 + (c.toNat : Int)) y) = false := decide_eq_false (by omega)
        have hb : (b == c) = false := beq_eq_false_iff_ne.mpr h2
        rw [hd, hb, decide_eq_false h1]
        rfl
theorem nbytes_lt (n : Int) (h0 : 0 ≤ n) (h1 : n < 4294967296) : n < 256 ^ (nbytes n).length := by
  have := accB_bd ((nbytes n).map u8)
  rw [accB_nbytes n h0 h1, List.length_map] at this
  exact this.2
theorem nbytes_ge (n : Int) (h0 : 0 < n) (h1 : n < 4294967296) : 256 ^ ((nbytes n).length - 1) ≤ n := by
  cases hc : nbytes n with
  | nil => have := nbytes_pos n (by omega) h1 hc; omega
  | cons b l =>
    have hb := nbytes_head n (by omega) h1 b l hc
    have he := accB_nbytes n (by omega) h1
    rw [hc] at he
    have h2 := accF_lo (l.map u8) (0 * 256 + ((u8 b).toNat : Int))
    have h3 : accB ((b :: l).map u8) = accF (0 * 256 + ((u8 b).toNat : Int)) (l.map u8) := rfl
    rw [← h3, he, u8_toNat (by omega) hb.2, List.length_map] at h2
    simp only [List.length_cons, Nat.add_sub_cancel]
    refine Int.le_trans ?_ h2
    have hp : (0 : Int) < 256 ^ l.length := Int.pow_pos (by omega)
    calc (256 : Int) ^ l.length = 1 * 256 ^ l.length := by omega
      _ ≤ (0 * 256 + b) * 256 ^ l.length := Int.mul_le_mul_of_nonneg_right (by omega) (Int.le_of_lt hp)
theorem pow_le (i j : Nat) (h : i ≤ j) : (256 : Int) ^ i ≤ 256 ^ j := by
  have : (256 : Nat) ^ i ≤ 256 ^ j := Nat.pow_le_pow_right (by omega) h
  have e : ∀ k : Nat, (256 : Int) ^ k = ((256 ^ k : Nat) : Int) := fun k => by rw [Int.natCast_pow]; rfl
  rw [e, e]
  exact Int.ofNat_le.2 this
theorem len_lt {n m : Int} (h0 : 0 ≤ n) (h1 : n < 4294967296) (g0 : 0 ≤ m) (g1 : m < 4294967296) (h : (nbytes n).length < (nbytes m).length) : n < m := by
  have hm : 0 < m := by
    by_cases e : m = 0
    · subst e; rw [nbytes_zero] at h; simp at h
    · omega
  have a := nbytes_lt n h0 h1
  have b := nbytes_ge m hm g1
  have c := pow_le (nbytes n).length ((nbytes m).length - 1) (by omega)
  omega
theorem rises {n m : Int} (h0 : 0 ≤ n) (h1 : n < 4294967296) (g0 : 0 ≤ m) (g1 : m < 4294967296) : Op.bytesLess (numStr n).data.toList (numStr m).data.toList = decide (n < m) := by
  have ln := nbytes_length n
  have lm := nbytes_length m
  rw [numStr_list, numStr_list]
  unfold Op.bytesLess
  have un := u8_toNat (n := ((nbytes n).length : Int)) (by omega) (by omega)
  have um := u8_toNat (n := ((nbytes m).length : Int)) (by omega) (by omega)
  rcases Nat.lt_trichotomy (nbytes n).length (nbytes m).length with h | h | h
  · have h2 : u8 ((nbytes n).length : Int) < u8 ((nbytes m).length : Int) := UInt8.lt_iff_toNat_lt.2 (by omega)
    rw [decide_eq_true (len_lt h0 h1 g0 g1 h)]
    simp [h2]
  · have h2 : ¬ u8 ((nbytes m).length : Int) < u8 ((nbytes m).length : Int) := UInt8.lt_irrefl _
    rw [h, less_acc _ _ 0 (by simp [h]) (by omega)]
    have e1 : accF 0 ((nbytes n).map u8) = n := accB_nbytes n h0 h1
    have e2 : accF 0 ((nbytes m).map u8) = m := accB_nbytes m g0 g1
    rw [e1, e2]
    simp [h2]
  · have h2 : ¬ u8 ((nbytes n).length : Int) < u8 ((nbytes m).length : Int) := fun z => by have := UInt8.lt_iff_toNat_lt.1 z; omega
    have h3 : ¬ u8 ((nbytes n).length : Int) = u8 ((nbytes m).length : Int) := fun z => by rw [z] at un; omega
    have := len_lt g0 g1 h0 h1 h
    have hd : decide (n < m) = false := decide_eq_false (by omega)
    have hb : (u8 ((nbytes n).length : Int) == u8 ((nbytes m).length : Int)) = false := beq_eq_false_iff_ne.mpr h3
    rw [hd, hb, decide_eq_false h2]
    rfl
theorem numStr_inj {n m : Int} (h0 : 0 ≤ n) (h1 : n ≤ 4294967295) (g0 : 0 ≤ m) (g1 : m ≤ 4294967295) (h : numStr n = numStr m) : n = m := by
  have a := getNum_put n h0 h1 ⟨#[]⟩
  have b := getNum_put m g0 g1 ⟨#[]⟩
  rw [h, b] at a
  simp only [Prod.mk.injEq, and_true] at a
  exact a.symm
end Go.Proofs.CodecPlain
