/-
  The sum's plain mathematics: eight steps are linear; the table's step is the reference's eight.
-/
import Derived.Test.YtnkakhcombmdoaaLcrcLaw
import Derived.Test.YtnkakhcombmdoaaFsextonref03Step
import Derived.Test.YtnkakhcombmdoaaFsextonref03Sum
import Derived.Test.YtnkakhcombmdoaaFsextonref03four
namespace Go.Proofs.Ytnkakhcombmdoaa.C
open Go.RowKit Go.Proofs.CodecPlain Go.Proofs.YtnkakhcombmdoaaW.PrintWords Go.Proofs.YtnkakhcombmdoaaW.PrintLast Go.Proofs.Ytnkakhcombmdoaa.P Go.Proofs.Ytnkakhcombmdoaa.B

def gN (x : Nat) : Nat := (x / 2) ^^^ (if x % 2 = 1 then 3988292384 else 0)
def gI : Nat → Nat → Nat
  | 0, x => x
  | n + 1, x => gN (gI n x)
theorem bit0 (x : Nat) : x.testBit 0 = decide (x % 2 = 1) := by rw [Nat.testBit_eq_decide_div_mod_eq]; simp
theorem gN_lin (x y : Nat) : gN (x ^^^ y) = gN x ^^^ gN y := by
  unfold gN
  have hb : ((x ^^^ y) % 2 = 1) = ((x % 2 = 1) ≠ (y % 2 = 1)) := by
    have h := Nat.testBit_xor x y 0
    rw [bit0, bit0, bit0] at h
    have h2 : decide ((x ^^^ y) % 2 = 1) = true ↔ ((decide (x % 2 = 1)) ^^ (decide (y % 2 = 1))) = true := by rw [h]
    by_cases hx : x % 2 = 1 <;> by_cases hy : y % 2 = 1 <;> simp [hx, hy] at h2 ⊢ <;> omega
  rw [Nat.xor_div_two]
  generalize 3988292384 = P
  have e : (if (x ^^^ y) % 2 = 1 then P else 0) = (if x % 2 = 1 then P else 0) ^^^ (if y % 2 = 1 then P else 0) := by
    by_cases hx : x % 2 = 1 <;> by_cases hy : y % 2 = 1 <;> simp [hb, hx, hy]
  rw [e]
  generalize (if x % 2 = 1 then P else 0) = A
  generalize (if y % 2 = 1 then P else 0) = B
  generalize x / 2 = u
  generalize y / 2 = v
  apply Nat.eq_of_testBit_eq
  intro i
  simp only [Nat.testBit_xor]
  cases u.testBit i <;> cases v.testBit i <;> cases A.testBit i <;> cases B.testBit i <;> rfl
theorem gI_lin (x y : Nat) : ∀ n, gI n (x ^^^ y) = gI n x ^^^ gI n y
  | 0 => rfl
  | n + 1 => by simp only [gI]; rw [gI_lin x y n, gN_lin]
theorem gI_front (x : Nat) : ∀ n, gI (n + 1) x = gI n (gN x)
  | 0 => rfl
  | n + 1 => by show gN (gI (n + 1) x) = _; rw [gI_front x n]; rfl
theorem gI_even (h : Nat) : ∀ n, gI n (h * 2 ^ n) = h
  | 0 => by simp [gI]
  | n + 1 => by
    rw [gI_front]
    have : gN (h * 2 ^ (n + 1)) = h * 2 ^ n := by
      unfold gN
      have e : h * 2 ^ (n + 1) = 2 * (h * 2 ^ n) := by rw [Nat.pow_succ, ← Nat.mul_assoc, Nat.mul_comm]
      rw [e, if_neg (by omega), Nat.xor_zero]
      omega
    rw [this, gI_even h n]
theorem parts (x : Nat) : x = (x / 256 * 2 ^ 8) ^^^ (x % 256) := by
  apply Nat.eq_of_testBit_eq
  intro i
  rw [Nat.testBit_xor, Nat.testBit_mul_two_pow, show (256 : Nat) = 2 ^ 8 from rfl, Nat.testBit_mod_two_pow, Nat.testBit_div_two_pow]
  by_cases h : i < 8
  · have : ¬ 8 ≤ i := by omega
    simp [h, this]
  · have h8 : 8 ≤ i := by omega
    have : i - 8 + 8 = i := by omega
    simp [h, h8, this]
theorem gI_parts (x : Nat) : gI 8 x = (x / 256) ^^^ gI 8 (x % 256) := by
  have := gI_lin (x / 256 * 2 ^ 8) (x % 256) 8
  rw [← parts x, gI_even] at this
  exact this
theorem gN_lt {x : Nat} (h : x < 2 ^ 32) : gN x < 2 ^ 32 := by
  unfold gN
  refine Nat.xor_lt_two_pow (by omega) ?_
  split <;> omega
theorem gI_lt {x : Nat} (h : x < 2 ^ 32) : ∀ n, gI n x < 2 ^ 32
  | 0 => h
  | n + 1 => gN_lt (gI_lt h n)
theorem xor_step (a b i : Nat) : (a ^^^ b) % 2 ^ (i + 1) = (a ^^^ b) % 2 ^ i + (if a / 2 ^ i % 2 = b / 2 ^ i % 2 then 0 else 2 ^ i) := by
  have hm : ∀ x : Nat, x % 2 ^ (i + 1) = x % 2 ^ i + 2 ^ i * (x / 2 ^ i % 2) := fun x => by
    rw [Nat.pow_succ, Nat.mod_mul]
  rw [hm, Nat.xor_div_two_pow]
  have h := Nat.testBit_xor (a / 2 ^ i) (b / 2 ^ i) 0
  rw [bit0, bit0, bit0] at h
  generalize a / 2 ^ i = u at *
  generalize b / 2 ^ i = v at *
  generalize u ^^^ v = w at *
  rcases Nat.mod_two_eq_zero_or_one u with hu | hu <;> rcases Nat.mod_two_eq_zero_or_one v with hv | hv <;> rcases Nat.mod_two_eq_zero_or_one w with hw | hw <;> simp_all

theorem ofn (a : Nat) (h : a < 4294967296) : (BitVec.ofInt 64 (a : Int)).toNat = a := by
  simp [BitVec.toNat_ofInt]; omega
theorem wrapn (n : Nat) (h : n < 4294967296) : IntKind.wrap .i64 (n : Int) = n := by
  simp [IntKind.wrap, IntKind.signed, IntKind.bits]; omega
theorem xor_nat (a b : Nat) (ha : a < 4294967296) (hb : b < 4294967296) : bits BinOp.xor IntKind.i64 (a : Int) (b : Int) = ((a ^^^ b : Nat) : Int) := by
  show IntKind.wrap .i64 (((BitVec.ofInt 64 (a : Int) ^^^ BitVec.ofInt 64 (b : Int)).toNat : Nat) : Int) = _
  rw [BitVec.toNat_xor, ofn a ha, ofn b hb, wrapn _ (Nat.xor_lt_two_pow (n := 32) ha hb)]
theorem and_nat (a m : Nat) (j : Nat) (hm : m = 2 ^ j - 1) (ha : a < 4294967296) (hb : m < 4294967296) : bits BinOp.and IntKind.i64 (a : Int) (m : Int) = ((a % 2 ^ j : Nat) : Int) := by
  show IntKind.wrap .i64 (((BitVec.ofInt 64 (a : Int) &&& BitVec.ofInt 64 (m : Int)).toNat : Nat) : Int) = _
  rw [BitVec.toNat_and, ofn a ha, ofn m hb, hm, Nat.and_two_pow_sub_one_eq_mod, wrapn]
  have := Nat.mod_le a (2 ^ j)
  omega
theorem crc1_nat (x : Nat) (h : x < 4294967296) : crc1 (x : Int) = ((gN x : Nat) : Int) := by
  unfold crc1 gN
  rw [show (1 : Int) = ((1 : Nat) : Int) from rfl, and_nat x 1 1 rfl h (by decide)]
  by_cases hx : x % 2 = 1
  · rw [if_pos (by simp [hx]), if_pos hx, show (x : Int) / 2 = ((x / 2 : Nat) : Int) by omega, show (3988292384 : Int) = ((3988292384 : Nat) : Int) from rfl, xor_nat _ _ (by omega) (by decide)]
  · rw [if_neg (by simp; omega), if_neg hx, Nat.xor_zero]
    omega
theorem crcN_nat (x : Nat) (h : x < 4294967296) : ∀ n, crcN n (x : Int) = ((gI n x : Nat) : Int)
  | 0 => rfl
  | n + 1 => by
    show crc1 (crcN n (x : Int)) = _
    rw [crcN_nat x h n, crc1_nat _ (gI_lt h n)]
    rfl
theorem stepV_nat (c b : Nat) (hc : c < 4294967296) (hb : b < 256) : stepV (c : Int) (b : Int) = ((gI 8 (c ^^^ b) : Nat) : Int) := by
  have hx : c ^^^ b < 4294967296 := Nat.xor_lt_two_pow (n := 32) hc (by omega)
  unfold stepV stepI
  rw [xor_nat c b hc (by omega), show (255 : Int) = ((255 : Nat) : Int) from rfl, and_nat _ 255 8 rfl hx (by decide), Int.toNat_natCast]
  unfold crcT
  rw [crcN_nat _ (by omega), show (c : Int) / 256 = ((c / 256 : Nat) : Int) by omega, xor_nat _ _ (by omega) (gI_lt (by omega) 8), gI_parts (c ^^^ b)]
  have : (c ^^^ b) / 256 = c / 256 := by
    rw [show (256 : Nat) = 2 ^ 8 from rfl, Nat.xor_div_two_pow, Nat.div_eq_of_lt (a := b) (by omega), Nat.xor_zero]
  rw [this]

theorem unlike_l0 (a b : Nat) (ha : a < 4294967296) (hb : b < 4294967296) (d : Nat) : ∀ i : Nat, i + d = 32 →
    Ev (fun r => sextonref03_Unlike.l0 r (a : Int) (b : Int) (((a ^^^ b) % 2 ^ i : Nat) : Int) ((2 ^ i : Nat) : Int) (i : Int)) ((a ^^^ b : Nat) : Int) := by
  have hx : a ^^^ b < 4294967296 := Nat.xor_lt_two_pow (n := 32) ha hb
  induction d with
  | zero =>
    intro i hi
    obtain rfl : i = 32 := by omega
    refine Ev.step (f := fun _ => some ((a ^^^ b : Nat) : Int)) (fun r => ?_) (Ev.now _)
    simp only [sextonref03_Unlike.l0]
    rw [if_neg (by decide), Nat.mod_eq_of_lt hx]
  | succ d ih =>
    intro i hi
    have hp : 2 ^ i ≤ 4294967296 := Nat.pow_le_pow_right (n := 2) (by decide) (show i ≤ 32 by omega)
    have hp0 : 0 < 2 ^ i := Nat.two_pow_pos i
    have hs := xor_step a b i
    have hlt := Nat.mod_lt (a ^^^ b) hp0
    have ht : ∀ x : Nat, x < 4294967296 → Int.tmod (wrap64 (Int.tdiv (x : Int) ((2 ^ i : Nat) : Int))) 2 = ((x / 2 ^ i % 2 : Nat) : Int) := fun x hx => by
      have hd : x / 2 ^ i ≤ x := Nat.div_le_self _ _
      rw [Int.tdiv_eq_ediv_of_nonneg (by omega), ← Int.natCast_ediv]
      generalize x / 2 ^ i = y at *
      rw [wrap_id (by omega) (by omega), Int.tmod_eq_emod_of_nonneg (by omega)]
      rfl
    have h2 : 2 ^ (i + 1) = 2 * 2 ^ i := by rw [Nat.pow_succ]; omega
    have hn := ih (i + 1) (by omega)
    refine Ev.step (f := fun r => sextonref03_Unlike.l0 r (a : Int) (b : Int) (((a ^^^ b) % 2 ^ (i + 1) : Nat) : Int) ((2 ^ (i + 1) : Nat) : Int) ((i + 1 : Nat) : Int)) (fun r => ?_) hn
    simp only [sextonref03_Unlike.l0]
    rw [if_pos (by omega), if_neg (by omega), ht a ha, ht b hb, hs, h2]
    generalize 2 ^ i = q at *
    generalize (a ^^^ b) % q = z at *
    rw [wrap_id (x := 2 * (q : Int)) (by omega) (by omega), wrap_id (x := (i : Int) + 1) (by omega) (by omega), show (2 : Int) * (q : Int) = ((2 * q : Nat) : Int) by omega, show (i : Int) + 1 = ((i + 1 : Nat) : Int) by omega]
    by_cases h : a / q % 2 = b / q % 2
    · rw [if_pos (by rw [h]), if_pos h]; rfl
    · rw [if_neg (by omega), if_neg h, wrap_id (x := (z : Int) + (q : Int)) (by omega) (by omega), show (z : Int) + (q : Int) = ((z + q : Nat) : Int) by omega]
theorem unlike_ev (a b : Nat) (ha : a < 4294967296) (hb : b < 4294967296) : Ev (fun k => sextonref03_Unlike.f k (a : Int) (b : Int)) ((a ^^^ b : Nat) : Int) := by
  have := unlike_l0 a b ha hb 32 0 (by omega)
  simpa [sextonref03_Unlike.f, Nat.mod_one] using this
theorem step_l0 (x : Nat) (hx : x < 4294967296) (d : Nat) : ∀ i : Nat, i + d = 8 → Ev (fun r => sextonref03_Step.l0 r ((gI i x : Nat) : Int) (i : Int)) (((gI 8 x : Nat) : Int), true) := by
  induction d with
  | zero =>
    intro i hi
    obtain rfl : i = 8 := by omega
    exact Ev.step (f := fun _ => some (((gI 8 x : Nat) : Int), true)) (fun r => by simp only [sextonref03_Step.l0]; rw [if_neg (by decide)]) (Ev.now _)
  | succ d ih =>
    intro i hi
    have hlt := gI_lt hx i
    have hn := ih (i + 1) (by omega)
    have he : gI (i + 1) x = gN (gI i x) := rfl
    rw [he] at hn
    generalize gI i x = c at *
    have ht : Int.tmod (c : Int) 2 = ((c % 2 : Nat) : Int) := by rw [Int.tmod_eq_emod_of_nonneg (by omega)]; rfl
    have hd : wrap64 (Int.tdiv (c : Int) 2) = ((c / 2 : Nat) : Int) := by rw [Int.tdiv_eq_ediv_of_nonneg (by omega), wrap_id (by omega) (by omega)]; rfl
    have hw : wrap64 ((i : Int) + 1) = ((i + 1 : Nat) : Int) := by rw [wrap_id (by omega) (by omega)]; rfl
    unfold gN at hn
    by_cases hc : c % 2 = 1
    · rw [if_pos hc] at hn
      refine Ev.step (f := fun r => (sextonref03_Unlike.f r ((c / 2 : Nat) : Int) ((3988292384 : Nat) : Int)).bind fun t191 => (sextonref03_Step.l0 r t191 ((i + 1 : Nat) : Int))) (fun r => ?_) ?_
      · simp only [sextonref03_Step.l0]
        rw [if_pos (by omega), ht, if_pos (by omega), hd, hw]
        rfl
      · exact Ev.bind (unlike_ev (c / 2) 3988292384 (by omega) (by decide)) hn
    · rw [if_neg hc, Nat.xor_zero] at hn
      refine Ev.step (f := fun r => sextonref03_Step.l0 r ((c / 2 : Nat) : Int) ((i + 1 : Nat) : Int)) (fun r => ?_) hn
      simp only [sextonref03_Step.l0]
      rw [if_pos (by omega), ht, if_neg (by omega), hd, hw]
theorem step_ev (c : Int) (b : Nat) (hb : b < 256) : Ev (fun k => sextonref03_Step.f k c (b : Int)) (if 0 ≤ c ∧ c ≤ 4294967295 then (stepV c (b : Int), true) else (0, false)) := by
  have no : Ev (fun k => sextonref03_Step.j0 k c (b : Int) true) (0, false) := Ev.step (f := fun _ => some (0, false)) (fun k => by simp only [sextonref03_Step.j0]; rw [if_pos trivial]) (Ev.now _)
  by_cases h0 : c < 0
  · rw [if_neg (by omega)]
    exact Ev.congr (fun k => by unfold sextonref03_Step.f; rw [if_pos h0]) no
  · by_cases h1 : c > 4294967295
    · rw [if_neg (by omega)]
      exact Ev.congr (f := fun k => sextonref03_Step.j0 k c (b : Int) true) (fun k => by unfold sextonref03_Step.f; rw [if_neg h0, decide_eq_true h1]) no
    · rw [if_pos (by omega)]
      obtain ⟨n, rfl⟩ : ∃ n : Nat, c = n := ⟨c.toNat, by omega⟩
      rw [stepV_nat n b (by omega) hb]
      refine Ev.congr (f := fun k => sextonref03_Step.j0 k (n : Int) (b : Int) false) (fun k => by unfold sextonref03_Step.f; rw [if_neg h0, decide_eq_false h1]) ?_
      refine Ev.step (f := fun k => (sextonref03_Unlike.f k (n : Int) (b : Int)).bind fun t190 => (sextonref03_Step.l0 k t190 0)) (fun k => by simp only [sextonref03_Step.j0]; rw [if_neg (by decide), wrap_id (by omega) (by omega)]) ?_
      exact Ev.bind (unlike_ev n b (by omega) (by omega)) (step_l0 (n ^^^ b) (Nat.xor_lt_two_pow (n := 32) (by omega) (by omega)) 8 0 (by omega))
theorem sum_l0 (s : ByteArray) (hs : s.size ≤ 1000000000) (d : Nat) : ∀ k : Nat, k + d = s.size → Ev (fun r => sextonref03_Sum.l0 r s (sumC (s.data.toList.take k) 4294967295) (k : Int)) (sumV s) := by
  induction d with
  | zero =>
    intro k hk
    obtain rfl : k = s.size := by omega
    have hw : sumC (s.data.toList.take s.size) 4294967295 = sumC s.data.toList 4294967295 := by rw [List.take_of_length_le (by simp)]
    have hr := sumC_rng s.data.toList (c := 4294967295) ⟨by omega, by omega⟩
    rw [hw]
    unfold sumV
    obtain ⟨n, hn⟩ : ∃ n : Nat, sumC s.data.toList 4294967295 = n := ⟨(sumC s.data.toList 4294967295).toNat, by have := hr.1; omega⟩
    rw [hn] at hr ⊢
    have hlt := hr.2
    have hx := xor_nat n 4294967295 (by omega) (by decide)
    have hx' : bits BinOp.xor IntKind.i64 (n : Int) 4294967295 = ((n ^^^ 4294967295 : Nat) : Int) := hx
    rw [hx']
    refine Ev.step (f := fun r => (sextonref03_Unlike.f r (n : Int) ((4294967295 : Nat) : Int)).bind fun t194 => (some t194)) (fun r => by simp only [sextonref03_Sum.l0]; rw [if_neg (by omega)]; rfl) ?_
    exact Ev.bind (unlike_ev n 4294967295 (by omega) (by decide)) (Ev.now _)
  | succ d ih =>
    intro k hk
    have hlt : k < s.size := by omega
    have hl : k < s.data.toList.length := by rw [len_list]; exact hlt
    have hr := sumC_rng (s.data.toList.take k) (c := 4294967295) ⟨by omega, by omega⟩
    have hst := step_ev (sumC (s.data.toList.take k) 4294967295) (s.data.toList[k].toNat) (s.data.toList[k].toNat_lt)
    rw [if_pos ⟨hr.1, by have := hr.2; omega⟩] at hst
    have hn := ih (k + 1) (by omega)
    rw [List.take_succ_eq_append_getElem hl, sumC_snoc] at hn
    refine Ev.step (f := fun r => (sextonref03_Step.f r (sumC (s.data.toList.take k) 4294967295) (s.data.toList[k].toNat : Int)).bind fun bt192 => (sextonref03_Sum.l0 r s bt192.1 ((k + 1 : Nat) : Int))) (fun r => ?_) (Ev.bind hst hn)
    simp only [sextonref03_Sum.l0]
    rw [if_pos (by omega), if_pos (by omega), bt_list s k hl, wrap_id (by omega) (by omega)]
    rfl
theorem sum_ev (s : ByteArray) (hs : s.size ≤ 1000000000) : Ev (fun k => sextonref03_Sum.f k s) (sumV s) := sum_l0 s hs s.size 0 (by omega)
theorem four_f (n : Int) (h : In32 n) : sextonref03_four.f n = some (fourS n) := by
  unfold In32 at h
  unfold sextonref03_four.f fourS
  rw [Int.tdiv_eq_ediv_of_nonneg h.1, Int.tdiv_eq_ediv_of_nonneg h.1, Int.tdiv_eq_ediv_of_nonneg h.1, wrap_id (by omega) (by omega), wrap_id (by omega) (by omega), wrap_id (by omega) (by omega), Int.tmod_eq_emod_of_nonneg (by omega), Int.tmod_eq_emod_of_nonneg (by omega), Int.tmod_eq_emod_of_nonneg (by omega)]
  simp only [Int.emod_emod]
end Go.Proofs.Ytnkakhcombmdoaa.C
