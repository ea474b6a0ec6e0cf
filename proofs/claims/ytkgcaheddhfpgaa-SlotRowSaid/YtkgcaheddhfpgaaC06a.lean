/-
  Texts that the claims of this chapter share, joined.
-/
import Derived.Test.YtkgcaheddhfpgaaPx0
import Derived.Laws.BytesArg
import Derived.WalkKit
import Derived.IntWalk
import Derived.LoopTactic
import Derived.Deep.QuietTactic
import Derived.BigQuiet
import Derived.Laws.BitsLemmas
import Derived.Laws.Slices
import Derived.Test.YtkgcaheddhfpgaaWMore
import Derived.Test.YtkgcaheddhfpgaaProg
import Derived.RangeFuncNested
import Derived.RangeFuncBound
import Derived.RangeFuncCalls
import Derived.RangeFuncLeaves
import Derived.RangeFuncBox
import Derived.Shelf.Abstract
import Derived.Shelf.RegionOpen
import Derived.OwnWalkIn
import Derived.TacticsInMore
import Derived.LoopNIn
import Derived.LoopIn
import Derived.Maps.AppendAt
import Derived.Outline
import Derived.Laws.OwnMore
import Derived.Lib.Strings
import Derived.Lib.Slices
import Derived.Lib.Walk
import Derived.Lib.Builder
import Derived.Lib.AppendStr
import Derived.Lib.UnsafeStr
import Derived.Laws.Externs
import Derived.Laws.IdiomCopy
import Derived.Shelf.Strings.BuilderX
import Derived.Test.YtkgcaheddhfpgaaShelf
import Derived.OwnWalk
set_option linter.unusedVariables false
set_option linter.unusedSimpArgs false
-- Written by a program of this session (xprint.py) over the kit's print.py.
namespace Go.Proofs.Ytkgcaheddhfpgaa.P
open Go.RowKit Go.Proofs.YtkgcaheddhfpgaaW.PrintWords Go.Proofs.YtkgcaheddhfpgaaW.PrintLast Go.Proofs.YtkgcaheddhfpgaaW.PrintMore
attribute [local go_sem] max2_int min2_int max_two min_two max_three min_three max_four min_four   -- for this text's walks alone
set_option linter.unusedVariables false
set_option linter.unusedSimpArgs false

/-! ### sextonref04_Big: function 27 -/
end Go.Proofs.Ytkgcaheddhfpgaa.P
-- Written by a program of this session (xprint.py) over the kit's print.py.
namespace Go.Proofs.Ytkgcaheddhfpgaa.P
open Go.RowKit Go.Proofs.YtkgcaheddhfpgaaW.PrintWords Go.Proofs.YtkgcaheddhfpgaaW.PrintLast Go.Proofs.YtkgcaheddhfpgaaW.PrintMore
attribute [local go_sem] max2_int min2_int max_two min_two max_three min_three max_four min_four   -- for this text's walks alone
set_option linter.unusedVariables false
set_option linter.unusedSimpArgs false

/-! ### sextonlaw06_far: function 19 -/
end Go.Proofs.Ytkgcaheddhfpgaa.P
-- Written by a program of this session (xprint.py) over the kit's print.py.
namespace Go.Proofs.Ytkgcaheddhfpgaa.P
open Go.RowKit Go.Proofs.YtkgcaheddhfpgaaW.PrintWords Go.Proofs.YtkgcaheddhfpgaaW.PrintLast Go.Proofs.YtkgcaheddhfpgaaW.PrintMore
attribute [local go_sem] max2_int min2_int max_two min_two max_three min_three max_four min_four   -- for this text's walks alone
set_option linter.unusedVariables false
set_option linter.unusedSimpArgs false

/-! ### sextonref01_Texts: function 24 -/
def sextonref01_Texts.l0 : Nat → List ByteArray → List ByteArray → Int → Option (Bool)
  | 0, _, _, _ => none
  | k + 1, x0, x1, x5 => if x5 < (x0.length : Int) then (if 0 ≤ x5 then (if x5 < (x1.length : Int) then (if (rdOf ByteArray.empty x0 x5).toList = (rdOf ByteArray.empty x1 x5).toList then (sextonref01_Texts.l0 k x0 x1 (wrap64 (x5 + 1))) else (some false)) else (none)) else (none)) else (some true)
def sextonref01_Texts.f (k : Nat) (l0 : List ByteArray) (l1 : List ByteArray) : Option (Bool) := if (l0.length : Int) = (l1.length : Int) then (sextonref01_Texts.l0 k l0 l1 0) else (some false)
set_option maxHeartbeats 8000000 in
set_option maxRecDepth 100000 in
theorem sextonref01_Texts.calls (k : Nat) (A0 : Option Addr) (c0 : Nat) (l0 : List ByteArray) (A1 : Option Addr) (c1 : Nat) (l1 : List ByteArray) (r : Bool) (w : World) (hr0 : Kd.C Kd.string w A0 l0.length l0) (hc0 : l0.length ≤ c0) (hr1 : Kd.C Kd.string w A1 l1.length l1) (hc1 : l1.length ≤ c1) (h : sextonref01_Texts.f k l0 l1 = some r) :
    Calls Try.prog 24 #[.slice A0 l0.length c0, .slice A1 l1.length c1] w fun e w' => e = .returned (.bool r) ∧ Drawn0 w w' := by
  have HR0 := Aside0.mk hr0
  have HC0 := Aside0.mk hc0
  clear hr0 hc0
  have HR1 := Aside0.mk hr1
  have HC1 := Aside0.mk hc1
  clear hr1 hc1
  have H : (if (l0.length : Int) = (l1.length : Int) then (sextonref01_Texts.l0 k l0 l1 0) else (some false)) = some r := h
  clear h
  by_cases c3 : (l0.length : Int) = (l1.length : Int)
  · rw [if_pos c3] at H
    have c3b0 : ((l0.length : Int) == (l1.length : Int)) = true := beq_iff_eq.mpr c3
    have c3b1 : ((l0.length : Int) != (l1.length : Int)) = false := bne_eq_false_iff_eq.mpr c3
    have c3b2 : (l0.length == l1.length) = true := by first | simpa using c3 | (simp at c3 ⊢; omega)
    clear c3
    have H' := Aside0.mk H
    clear H
    go_enter Try.func24, Try.ntmps24
    go_wp2
    repeat (go_quiet (fail); try go_wp2)
    go_loopg [5] k (fun kq v5 w' => ∃ (x5_1 : Int), v5 = .int .i64 x5_1 ∧ Aside0 (sextonref01_Texts.l0 kq l0 l1 x5_1 = some r) ∧ Aside0 (kq ≤ k) ∧ Drawn0 w w')
    case atStart => exact ⟨(0), (by first | rfl | (simp; done) | (simp [*]; done)), H', ⟨Nat.le_refl _⟩, by repeat (first | exact Drawn0.refl _ | apply Drawn0.step)⟩
    case round =>
      clear H'
      try clear c1
      try clear c2
      try clear p2
      try clear c3
      try clear c3b0
      try clear c3b1
      try clear c3b2
      obtain ⟨x5_1, rfl, HA, HK1, ⟨m1, rfl⟩⟩ := hrel
      cases gk with
      | zero => exact absurd HA.out (by simp [sextonref01_Texts.l0])
      | succ k1 =>
        have H := HA.out
        clear HA
        simp only [sextonref01_Texts.l0] at H
        by_cases c4 : x5_1 < (l0.length : Int)
        · rw [if_pos c4] at H
          have c4b0 : decide (x5_1 < (l0.length : Int)) = true := decide_eq_true c4
          clear c4
          by_cases c5 : 0 ≤ x5_1
          · rw [if_pos c5] at H
            have c5b0 : decide (0 ≤ x5_1) = true := decide_eq_true c5
            clear c5
            by_cases c6 : x5_1 < (l1.length : Int)
            · rw [if_pos c6] at H
              have c6b0 : decide (x5_1 < (l1.length : Int)) = true := decide_eq_true c6
              clear c6
              by_cases c7 : (rdOf ByteArray.empty l0 x5_1).toList = (rdOf ByteArray.empty l1 x5_1).toList
              · rw [if_pos c7] at H
                have c7b0 : ((rdOf ByteArray.empty l0 x5_1).toList == (rdOf ByteArray.empty l1 x5_1).toList) = true := beq_iff_eq.mpr c7
                have c7b1 : ((rdOf ByteArray.empty l0 x5_1).toList != (rdOf ByteArray.empty l1 x5_1).toList) = false := bne_eq_false_iff_eq.mpr c7
                clear c7
                have H' := Aside0.mk H
                clear H
                have p313 : 0 ≤ (x5_1 : Int) := of_decide_eq_true (by first | (with_reducible assumption) | assumption)
                have q313 : x5_1 < (l0.length : Int) := of_decide_eq_true (by first | (with_reducible assumption) | assumption)
                obtain ⟨ad313, e313, hx313_0⟩ := Kd.at_string HR0.out x5_1 p313 q313
                cases e313
                replace p313 := eq_true p313
                replace q313 := eq_true q313
                have p314 : 0 ≤ (x5_1 : Int) := of_decide_eq_true (by first | (with_reducible assumption) | assumption)
                have q314 : x5_1 < (l1.length : Int) := of_decide_eq_true (by first | (with_reducible assumption) | assumption)
                obtain ⟨ad314, e314, hx314_0⟩ := Kd.at_string HR1.out x5_1 p314 q314
                cases e314
                replace p314 := eq_true p314
                replace q314 := eq_true q314
                go_wp2
                repeat (go_quiet (fail); try go_wp2)
                go_roundg k1
                case measure => have := HK1.out; omega
                case rel => exact ⟨(wrap64 (x5_1 + 1)), (by first | rfl | (simp; done) | (simp [*]; done)), H', ⟨by have := HK1.out; omega⟩, by repeat (first | exact Drawn0.refl _ | apply Drawn0.step)⟩
              · rw [if_neg c7] at H
                have c7b0 : ((rdOf ByteArray.empty l0 x5_1).toList == (rdOf ByteArray.empty l1 x5_1).toList) = false := beq_eq_false_iff_ne.mpr c7
                have c7b1 : ((rdOf ByteArray.empty l0 x5_1).toList != (rdOf ByteArray.empty l1 x5_1).toList) = true := bne_iff_ne.mpr c7
                obtain rfl := Option.some.inj H
                have p313 : 0 ≤ (x5_1 : Int) := of_decide_eq_true (by first | (with_reducible assumption) | assumption)
                have q313 : x5_1 < (l0.length : Int) := of_decide_eq_true (by first | (with_reducible assumption) | assumption)
                obtain ⟨ad313, e313, hx313_0⟩ := Kd.at_string HR0.out x5_1 p313 q313
                cases e313
                replace p313 := eq_true p313
                replace q313 := eq_true q313
                have p314 : 0 ≤ (x5_1 : Int) := of_decide_eq_true (by first | (with_reducible assumption) | assumption)
                have q314 : x5_1 < (l1.length : Int) := of_decide_eq_true (by first | (with_reducible assumption) | assumption)
                obtain ⟨ad314, e314, hx314_0⟩ := Kd.at_string HR1.out x5_1 p314 q314
                cases e314
                replace p314 := eq_true p314
                replace q314 := eq_true q314
                go_wp2
                repeat (go_quiet (fail); try go_wp2)
                go_ret
                exact ⟨by first | rfl | (simp; done) | (simp [*]; done), by repeat (first | exact Drawn0.refl _ | apply Drawn0.step)⟩
            · rw [if_neg c6] at H
              exact absurd H (by simp)
          · rw [if_neg c5] at H
            exact absurd H (by simp)
        · rw [if_neg c4] at H
          have c4b0 : decide (x5_1 < (l0.length : Int)) = false := decide_eq_false c4
          clear c4
          obtain rfl := Option.some.inj H
          go_wp2
          repeat (go_quiet (fail); try go_wp2)
          go_ret
          exact ⟨by first | rfl | (simp; done) | (simp [*]; done), by repeat (first | exact Drawn0.refl _ | apply Drawn0.step)⟩
  · rw [if_neg c3] at H
    have c3b0 : ((l0.length : Int) == (l1.length : Int)) = false := beq_eq_false_iff_ne.mpr c3
    have c3b1 : ((l0.length : Int) != (l1.length : Int)) = true := bne_iff_ne.mpr c3
    have c3b2 : (l0.length == l1.length) = false := by first | simpa using c3 | (simp at c3 ⊢; omega)
    obtain rfl := Option.some.inj H
    go_enter Try.func24, Try.ntmps24
    go_wp2
    repeat (go_quiet (fail); try go_wp2)
    go_ret
    exact ⟨by first | rfl | (simp; done) | (simp [*]; done), by repeat (first | exact Drawn0.refl _ | apply Drawn0.step)⟩

end Go.Proofs.Ytkgcaheddhfpgaa.P
/-
  Plain laws on a number's bytes, highest first, without the leading zeros: no program in sight.
-/
namespace Go.Proofs.CodecPlain

/-- A fact that the walk is not to see. -/
structure As (p : Prop) : Prop where mk :: (out : p)

/-- The byte of n at place k. -/
def nbyte (n : Int) (k : Nat) : Int := n / 256 ^ k % 256
/-- Without the zeros at its head. -/
def lead : List Int → List Int
  | [] => []
  | b :: l => if b = 0 then lead l else b :: l
/-- The first j of the four bytes, the highest first. -/
def tops (n : Int) : Nat → List Int
  | 0 => []
  | j + 1 => tops n j ++ [nbyte n (3 - j)]
/-- A number's bytes. -/
def nbytes (n : Int) : List Int := lead (tops n 4)

/-- A number's text: how many bytes, and the bytes. -/
def numStr (n : Int) : ByteArray := Go.strOfNums (((nbytes n).length : Int) :: nbytes n)

theorem lead_snoc_nil {l : List Int} (h : lead l = []) (b : Int) : lead (l ++ [b]) = if b = 0 then [] else [b] := by
  induction l with
  | nil => by_cases e : b = 0 <;> simp [lead, e]
  | cons c l ih =>
    unfold lead at h
    split at h
    · rename_i e; subst e; simp [lead, ih h]
    · cases h
theorem lead_snoc {l : List Int} (h : lead l ≠ []) (b : Int) : lead (l ++ [b]) = lead l ++ [b] := by
  induction l with
  | nil => exact absurd rfl h
  | cons c l ih =>
    by_cases e : c = 0
    · subst e
      have : lead l ≠ [] := by intro e'; exact h (by simp [lead, e'])
      simp [lead, ih this]
    · simp [lead, e]
theorem tops_length (n : Int) (j : Nat) : (tops n j).length = j := by
  induction j with
  | zero => rfl
  | succ j ih => simp [tops, ih]
theorem lead_length (l : List Int) : (lead l).length ≤ l.length := by
  induction l with
  | nil => simp [lead]
  | cons c l ih => unfold lead; split <;> simp <;> omega
theorem nbytes_length (n : Int) : (nbytes n).length ≤ 4 := by
  have := lead_length (tops n 4); rw [tops_length] at this; exact this
theorem numStr_size (n : Int) : 1 ≤ (numStr n).size ∧ (numStr n).size ≤ 5 := by
  have := nbytes_length n
  have h : (numStr n).size = (nbytes n).length + 1 := by simp [numStr, Go.strOfNums, ByteArray.size]
  omega
/-- A text's text. -/
def textStr (s : ByteArray) : ByteArray := numStr (s.size : Int) ++ s
/-- Texts one behind the other. -/
def catStr : List ByteArray → ByteArray
  | [] => ⟨#[]⟩
  | s :: l => s ++ catStr l
/-- A row's text. -/
def rowStr (l : List ByteArray) : ByteArray := numStr (l.length : Int) ++ catStr (l.map textStr)
theorem size_append (a b : ByteArray) : (a ++ b).size = a.size + b.size := ByteArray.size_append
theorem textStr_size (s : ByteArray) : (textStr s).size ≤ s.size + 5 := by
  have := numStr_size (s.size : Int); unfold textStr; rw [size_append]; omega
theorem catStr_append (a b : List ByteArray) : catStr (a ++ b) = catStr a ++ catStr b := by
  induction a with
  | nil => simp [catStr]; rfl
  | cons x a ih => simp [catStr, ih, ByteArray.append_assoc]
theorem catStr_size (l : List ByteArray) (h : ∀ s ∈ l, s.size ≤ 4000) : (catStr (l.map textStr)).size ≤ l.length * 4005 := by
  induction l with
  | nil => simp [catStr, ByteArray.size]
  | cons x l ih =>
    have h1 := ih (fun s hs => h s (List.mem_cons_of_mem _ hs))
    have h2 := textStr_size x
    have h3 := h x List.mem_cons_self
    simp only [List.map_cons, catStr, size_append, List.length_cons]
    omega
theorem row_next (l : List ByteArray) (k : Nat) (h : k < l.length) :
    (numStr l.length ++ catStr ((l.take k).map textStr)).data.toList ++ (textStr l[k]).data.toList = (numStr l.length ++ catStr ((l.take (k + 1)).map textStr)).data.toList := by
  rw [List.take_succ_eq_append_getElem h, List.map_append, catStr_append]
  simp [catStr]

end Go.Proofs.CodecPlain
/-
  Plain laws on reading a number's bytes: no program in sight.
-/
namespace Go.Proofs.CodecPlain

/-- The number that bytes say, the highest first. -/
def accB (l : List UInt8) : Int := l.foldl (fun a b => a * 256 + (b.toNat : Int)) 0
theorem accB_snoc (l : List UInt8) (b : UInt8) : accB (l ++ [b]) = accB l * 256 + (b.toNat : Int) := by simp [accB]
theorem accB_from (l : List UInt8) : ∀ a : Int, 0 ≤ a → 0 ≤ l.foldl (fun a b => a * 256 + (b.toNat : Int)) a ∧ l.foldl (fun a b => a * 256 + (b.toNat : Int)) a < (a + 1) * 256 ^ l.length := by
  induction l with
  | nil => intro a h; simp; omega
  | cons b l ih =>
    intro a h
    have hb := b.toNat_lt
    have h1 := ih (a * 256 + (b.toNat : Int)) (by omega)
    rw [List.foldl_cons, List.length_cons, Int.pow_succ]
    refine ⟨h1.1, Int.lt_of_lt_of_le h1.2 ?_⟩
    rw [Int.mul_comm (256 ^ l.length) 256, ← Int.mul_assoc]
    exact Int.mul_le_mul_of_nonneg_right (by omega) (Int.le_of_lt (Int.pow_pos (by omega)))
theorem accB_bd (l : List UInt8) : 0 ≤ accB l ∧ accB l < 256 ^ l.length := by
  have := accB_from l 0 (by omega)
  simpa [accB] using this

/-- The first byte of bytes. -/
def hd (s : ByteArray) : Nat := if h : 0 < s.size then (s[0]'h).toNat else 0

/-- What reads as a number at the begin of bytes: it, what stands behind, and whether there is one. -/
def getNum (s : ByteArray) : Int × ByteArray × Bool :=
  if s.size = 0 ∨ 4 < hd s ∨ s.size ≤ hd s then (0, ⟨#[]⟩, false)
  else if hd s ≠ 0 ∧ hd (s.extract 1 (1 + hd s)) = 0 then (0, ⟨#[]⟩, false)
  else (accB (s.extract 1 (1 + hd s)).data.toList, s.extract (1 + hd s) s.size, true)

end Go.Proofs.CodecPlain
/-
  codec.GetNumber, by hand. For every text of a size that a text may have.
-/
namespace Go.Proofs.Ytkgcaheddhfpgaa.P
open Go.RowKit Go.Proofs.CodecPlain Go.Proofs.YtkgcaheddhfpgaaW.PrintWords Go.Proofs.YtkgcaheddhfpgaaW.PrintLast

/-- What codec.GetNumber answers. -/
def codec_GetNumber.f (a0 : ByteArray) : Option (Int × ByteArray × Bool) := some (getNum a0)

theorem toList_ne {s : ByteArray} (h : 0 < s.size) : s.toList.isEmpty = false := by
  rw [ByteArray.toList_eq]
  cases e : s.data.toList with
  | nil =>
    have h1 := congrArg List.length e
    rw [Array.length_toList] at h1
    have h2 : s.size = 0 := h1
    omega
  | cons a l => rfl

theorem getNum_no {s : ByteArray} (h : s.size = 0 ∨ 4 < hd s ∨ s.size ≤ hd s) : getNum s = (0, ⟨#[]⟩, false) := by unfold getNum; rw [if_pos h]

theorem getNum_is (s : ByteArray) (q : 0 < s.size) (h4 : hd s ≤ 4) (h5 : hd s < s.size) :
    getNum s = if hd s ≠ 0 ∧ hd (s.extract 1 (1 + hd s)) = 0 then (0, ⟨#[]⟩, false) else (accB (s.extract 1 (1 + hd s)).data.toList, s.extract (1 + hd s) s.size, true) := by
  unfold getNum; rw [if_neg (by omega)]

theorem hd_at {s : ByteArray} (h : 0 < s.size) : ((s[0]'h).toNat : Int) = (hd s : Int) := by simp [hd, h]

set_option maxHeartbeats 4000000 in
set_option maxRecDepth 100000 in
theorem codec_GetNumber_no (s : ByteArray) (w : World) (h : s.size = 0 ∨ 4 < hd s ∨ s.size ≤ hd s) :
    Calls Try.prog 61 #[.string s] w fun e w' => e = .returned (.tuple #[.int .i64 0, .string ⟨#[]⟩, .bool false]) ∧ Drawn0 w w' := by
  by_cases h0 : s.size = 0
  · obtain rfl : s = ⟨#[]⟩ := by
      cases s; rename_i d; simp [ByteArray.size] at h0; subst h0; rfl
    clear h h0
    go_enter Try.func61, Try.ntmps61
    go_wp2
    go_ret3
    exact ⟨rfl, Drawn0.refl _⟩
  · have q : 0 < s.size := by omega
    have hx := hd_at q
    have hlt : hd s < 256 := by unfold hd; rw [dif_pos q]; exact (s[0]).toNat_lt
    have en := toList_ne q
    obtain ⟨m, hm⟩ : ∃ m, m = hd s := ⟨_, rfl⟩
    rw [← hm] at hx h hlt
    clear h0 hm
    by_cases h4 : 4 < m
    · clear h
      go_enter Try.func61, Try.ntmps61
      go_wp2
      go_ret3
      exact ⟨rfl, Drawn0.refl _⟩
    · have h5 : s.size ≤ m := by omega
      clear h
      go_enter Try.func61, Try.ntmps61
      go_wp2
      go_ret3
      exact ⟨rfl, Drawn0.refl _⟩

theorem accB_take (b : ByteArray) (k : Nat) (h : k < b.size) : accB (b.data.toList.take (k + 1)) = accB (b.data.toList.take k) * 256 + (b[k].toNat : Int) := by
  have hl : k < b.data.toList.length := by rw [Array.length_toList]; exact h
  rw [List.take_succ_eq_append_getElem hl, accB_snoc]
  rfl
theorem accB_lt (b : ByteArray) (k : Nat) (h : k ≤ b.size) (h4 : b.size ≤ 4) (hk : k < b.size) : 0 ≤ accB (b.data.toList.take k) ∧ accB (b.data.toList.take k) < 16777216 := by
  have h1 := accB_bd (b.data.toList.take k)
  have hl : (b.data.toList.take k).length = k := by rw [List.length_take, Array.length_toList]; exact Nat.min_eq_left h
  rw [hl] at h1
  refine ⟨h1.1, Int.lt_of_lt_of_le h1.2 ?_⟩
  match k, h, hk with
  | 0, _, _ => decide
  | 1, _, _ => decide
  | 2, _, _ => decide
  | 3, _, _ => decide
  | k + 4, _, hk => omega
theorem accB_whole (b : ByteArray) : accB (b.data.toList.take b.size) = accB b.data.toList := by
  rw [List.take_of_length_le]; rw [Array.length_toList]; exact Nat.le_refl _
theorem or_byte (x y : Int) (hx : 0 ≤ x) (hx1 : x < 16777216) (hy : 0 ≤ y) (hy1 : y < 256) : Go.bits .or .i64 (x * 256) y = x * 256 + y :=
  bits_join .i64 63 (by decide) (fun n h0 h1 => IntWalk.i64_in n ⟨by omega, by omega⟩) 8 (x * 256) y (by omega) (by omega) (by omega) hy (by omega) (by omega)

set_option maxHeartbeats 4000000 in
set_option maxRecDepth 100000 in
theorem codec_GetNumber_0 (s : ByteArray) (w : World) (q : 0 < s.size) (hm : hd s = 0) (h5 : 0 < s.size) :
    Calls Try.prog 61 #[.string s] w fun e w' => e = .returned (.tuple #[.int .i64 (getNum s).1, .string (getNum s).2.1, .bool (getNum s).2.2]) ∧ Drawn0 w w' := by
  have hx := hd_at q
  have en := toList_ne q
  have hg0 := getNum_is s q (by omega) (by omega)
  rw [hm] at hx hg0
  have HG := Aside0.mk hg0
  clear hg0 hm
  have hw0 : IntKind.i64.wrap (1 + 0) = 1 := rfl
  have hi0 : (1 : Int) ≤ 1 := by omega
  have hi1 : 1 ≤ s.size := by omega
  have hi2 : (1 : Int) ≤ (s.size : Int) := by omega
  have hem : decide (s = ByteArray.empty) = false := decide_eq_false (by rintro rfl; exact absurd q (by decide))
  have hbs := Aside0.mk (show (s.extract 1 1).size = 0 by rw [ByteArray.size_extract]; omega)
  go_enter Try.func61, Try.ntmps61
  go_wp2
  go_quiet (fail)
  clear en hi1 hi2 hx hw0 hi0 h5 hem
  have he : s.extract 1 1 = ⟨#[]⟩ := by
    have := hbs.out
    cases h : s.extract 1 1 with
    | mk d => rw [h] at this; simp [ByteArray.size] at this; rw [this]
  have he0 : ByteArray.empty = ⟨#[]⟩ := rfl
  rw [he0]
  clear he0
  go_wp2
  go_loopw [7, 8, 46] (fun v _ i wr => v = .int .i64 0 ∧ i = .int .i64 0 ∧ Drawn0 w wr) (fun _ _ i _ => 0)
  case atStart => exact ⟨rfl, rfl, by repeat (first | exact Drawn0.refl _ | apply Drawn0.step)⟩
  case round =>
    obtain ⟨rfl, rfl, ⟨n, rfl⟩⟩ := hrel
    go_wp2
    go_ret3
    refine ⟨?_, ⟨_, rfl⟩⟩
    rw [HG.out, if_neg (by simp)]
    simp only [Nat.add_zero, he]
    rfl
set_option maxHeartbeats 4000000 in
set_option maxRecDepth 100000 in
theorem codec_GetNumber_1 (s : ByteArray) (w : World) (q : 0 < s.size) (hm : hd s = 1) (h5 : 1 < s.size) :
    Calls Try.prog 61 #[.string s] w fun e w' => e = .returned (.tuple #[.int .i64 (getNum s).1, .string (getNum s).2.1, .bool (getNum s).2.2]) ∧ Drawn0 w w' := by
  have hx := hd_at q
  have en := toList_ne q
  have hg0 := getNum_is s q (by omega) (by omega)
  rw [hm] at hx hg0
  have HG := Aside0.mk hg0
  clear hg0 hm
  have hw0 : IntKind.i64.wrap (1 + 1) = 2 := rfl
  have hi0 : (1 : Int) ≤ 2 := by omega
  have hi1 : 2 ≤ s.size := by omega
  have hi2 : (2 : Int) ≤ (s.size : Int) := by omega
  have hem : decide (s = ByteArray.empty) = false := decide_eq_false (by rintro rfl; exact absurd q (by decide))
  have hbs := Aside0.mk (show (s.extract 1 2).size = 1 by rw [ByteArray.size_extract]; omega)
  go_enter Try.func61, Try.ntmps61
  go_wp2
  go_quiet (fail)
  clear en hi1 hi2 hx hw0 hi0 h5 hem
  generalize s.extract 1 2 = b at *
  have q0 : 0 < b.size := by rw [hbs.out]; omega
  have hx := hd_at q0
  have en := toList_ne q0
  have en2 : b.toList ≠ [] := by intro h; rw [h] at en; cases en
  obtain ⟨h0, hh0⟩ : ∃ h0, h0 = hd b := ⟨_, rfl⟩
  rw [← hh0] at hx
  have HH := Aside0.mk hh0
  clear hh0
  by_cases hz : (h0 : Int) = 0
  · have e1 : ((h0 : Int) == 0) = true := by simpa using hz
    have HZ := Aside0.mk hz
    clear hz
    go_wp2
    go_ret3
    refine ⟨?_, by repeat (first | exact Drawn0.refl _ | apply Drawn0.step)⟩
    rw [HG.out, if_pos ⟨by omega, by rw [← HH.out]; have := HZ.out; omega⟩]
    rfl
  · have e1 : ((h0 : Int) == 0) = false := by simpa using hz
    have HZ := Aside0.mk hz
    clear hz
    go_wp2
    clear en en2 e1 hx
    clear q0
    have hlen : (b.size : Int) = 1 := by rw [hbs.out]; rfl
    go_loopw [7, 8, 46] (fun v _ i wr => ∃ k : Nat, k ≤ b.size ∧ i = .int .i64 k ∧ v = .int .i64 (accB (b.data.toList.take k)) ∧ Drawn0 w wr) (fun _ _ i _ => b.size - (intOf i).toNat)
    case atStart => exact ⟨0, Nat.zero_le _, rfl, rfl, by repeat (first | exact Drawn0.refl _ | apply Drawn0.step)⟩
    case round =>
      obtain ⟨k, hk, rfl, rfl, ⟨n, rfl⟩⟩ := hrel
      by_cases hlt : k < b.size
      · have hb1 := accB_lt b k hk (by omega) hlt
        have hb2 := b[k].toNat_lt
        have hob := or_byte (accB (b.data.toList.take k)) (b[k].toNat : Int) hb1.1 hb1.2 (by omega) (by omega)
        have hnx := Aside0.mk (accB_take b k hlt)
        go_wp2
        go_roundw
        case rel => exact ⟨k + 1, by omega, by go_num, by rw [hnx.out], ⟨_, rfl⟩⟩
        case measure => simp [intOf]; omega
      · obtain rfl : k = b.size := by omega
        have haw := Aside0.mk (accB_whole b)
        go_wp2
        go_ret3
        refine ⟨?_, ⟨_, rfl⟩⟩
        rw [HG.out, if_neg (by rintro ⟨_, h⟩; have h1 := HH.out; have h2 := HZ.out; omega), haw.out]
        rfl
set_option maxHeartbeats 4000000 in
set_option maxRecDepth 100000 in
theorem codec_GetNumber_2 (s : ByteArray) (w : World) (q : 0 < s.size) (hm : hd s = 2) (h5 : 2 < s.size) :
    Calls Try.prog 61 #[.string s] w fun e w' => e = .returned (.tuple #[.int .i64 (getNum s).1, .string (getNum s).2.1, .bool (getNum s).2.2]) ∧ Drawn0 w w' := by
  have hx := hd_at q
  have en := toList_ne q
  have hg0 := getNum_is s q (by omega) (by omega)
  rw [hm] at hx hg0
  have HG := Aside0.mk hg0
  clear hg0 hm
  have hw0 : IntKind.i64.wrap (1 + 2) = 3 := rfl
  have hi0 : (1 : Int) ≤ 3 := by omega
  have hi1 : 3 ≤ s.size := by omega
  have hi2 : (3 : Int) ≤ (s.size : Int) := by omega
  have hem : decide (s = ByteArray.empty) = false := decide_eq_false (by rintro rfl; exact absurd q (by decide))
  have hbs := Aside0.mk (show (s.extract 1 3).size = 2 by rw [ByteArray.size_extract]; omega)
  go_enter Try.func61, Try.ntmps61
  go_wp2
  go_quiet (fail)
  clear en hi1 hi2 hx hw0 hi0 h5 hem
  generalize s.extract 1 3 = b at *
  have q0 : 0 < b.size := by rw [hbs.out]; omega
  have hx := hd_at q0
  have en := toList_ne q0
  have en2 : b.toList ≠ [] := by intro h; rw [h] at en; cases en
  obtain ⟨h0, hh0⟩ : ∃ h0, h0 = hd b := ⟨_, rfl⟩
  rw [← hh0] at hx
  have HH := Aside0.mk hh0
  clear hh0
  by_cases hz : (h0 : Int) = 0
  · have e1 : ((h0 : Int) == 0) = true := by simpa using hz
    have HZ := Aside0.mk hz
    clear hz
    go_wp2
    go_ret3
    refine ⟨?_, by repeat (first | exact Drawn0.refl _ | apply Drawn0.step)⟩
    rw [HG.out, if_pos ⟨by omega, by rw [← HH.out]; have := HZ.out; omega⟩]
    rfl
  · have e1 : ((h0 : Int) == 0) = false := by simpa using hz
    have HZ := Aside0.mk hz
    clear hz
    go_wp2
    clear en en2 e1 hx
    clear q0
    have hlen : (b.size : Int) = 2 := by rw [hbs.out]; rfl
    go_loopw [7, 8, 46] (fun v _ i wr => ∃ k : Nat, k ≤ b.size ∧ i = .int .i64 k ∧ v = .int .i64 (accB (b.data.toList.take k)) ∧ Drawn0 w wr) (fun _ _ i _ => b.size - (intOf i).toNat)
    case atStart => exact ⟨0, Nat.zero_le _, rfl, rfl, by repeat (first | exact Drawn0.refl _ | apply Drawn0.step)⟩
    case round =>
      obtain ⟨k, hk, rfl, rfl, ⟨n, rfl⟩⟩ := hrel
      by_cases hlt : k < b.size
      · have hb1 := accB_lt b k hk (by omega) hlt
        have hb2 := b[k].toNat_lt
        have hob := or_byte (accB (b.data.toList.take k)) (b[k].toNat : Int) hb1.1 hb1.2 (by omega) (by omega)
        have hnx := Aside0.mk (accB_take b k hlt)
        go_wp2
        go_roundw
        case rel => exact ⟨k + 1, by omega, by go_num, by rw [hnx.out], ⟨_, rfl⟩⟩
        case measure => simp [intOf]; omega
      · obtain rfl : k = b.size := by omega
        have haw := Aside0.mk (accB_whole b)
        go_wp2
        go_ret3
        refine ⟨?_, ⟨_, rfl⟩⟩
        rw [HG.out, if_neg (by rintro ⟨_, h⟩; have h1 := HH.out; have h2 := HZ.out; omega), haw.out]
        rfl
set_option maxHeartbeats 4000000 in
set_option maxRecDepth 100000 in
theorem codec_GetNumber_3 (s : ByteArray) (w : World) (q : 0 < s.size) (hm : hd s = 3) (h5 : 3 < s.size) :
    Calls Try.prog 61 #[.string s] w fun e w' => e = .returned (.tuple #[.int .i64 (getNum s).1, .string (getNum s).2.1, .bool (getNum s).2.2]) ∧ Drawn0 w w' := by
  have hx := hd_at q
  have en := toList_ne q
  have hg0 := getNum_is s q (by omega) (by omega)
  rw [hm] at hx hg0
  have HG := Aside0.mk hg0
  clear hg0 hm
  have hw0 : IntKind.i64.wrap (1 + 3) = 4 := rfl
  have hi0 : (1 : Int) ≤ 4 := by omega
  have hi1 : 4 ≤ s.size := by omega
  have hi2 : (4 : Int) ≤ (s.size : Int) := by omega
  have hem : decide (s = ByteArray.empty) = false := decide_eq_false (by rintro rfl; exact absurd q (by decide))
  have hbs := Aside0.mk (show (s.extract 1 4).size = 3 by rw [ByteArray.size_extract]; omega)
  go_enter Try.func61, Try.ntmps61
  go_wp2
  go_quiet (fail)
  clear en hi1 hi2 hx hw0 hi0 h5 hem
  generalize s.extract 1 4 = b at *
  have q0 : 0 < b.size := by rw [hbs.out]; omega
  have hx := hd_at q0
  have en := toList_ne q0
  have en2 : b.toList ≠ [] := by intro h; rw [h] at en; cases en
  obtain ⟨h0, hh0⟩ : ∃ h0, h0 = hd b := ⟨_, rfl⟩
  rw [← hh0] at hx
  have HH := Aside0.mk hh0
  clear hh0
  by_cases hz : (h0 : Int) = 0
  · have e1 : ((h0 : Int) == 0) = true := by simpa using hz
    have HZ := Aside0.mk hz
    clear hz
    go_wp2
    go_ret3
    refine ⟨?_, by repeat (first | exact Drawn0.refl _ | apply Drawn0.step)⟩
    rw [HG.out, if_pos ⟨by omega, by rw [← HH.out]; have := HZ.out; omega⟩]
    rfl
  · have e1 : ((h0 : Int) == 0) = false := by simpa using hz
    have HZ := Aside0.mk hz
    clear hz
    go_wp2
    clear en en2 e1 hx
    clear q0
    have hlen : (b.size : Int) = 3 := by rw [hbs.out]; rfl
    go_loopw [7, 8, 46] (fun v _ i wr => ∃ k : Nat, k ≤ b.size ∧ i = .int .i64 k ∧ v = .int .i64 (accB (b.data.toList.take k)) ∧ Drawn0 w wr) (fun _ _ i _ => b.size - (intOf i).toNat)
    case atStart => exact ⟨0, Nat.zero_le _, rfl, rfl, by repeat (first | exact Drawn0.refl _ | apply Drawn0.step)⟩
    case round =>
      obtain ⟨k, hk, rfl, rfl, ⟨n, rfl⟩⟩ := hrel
      by_cases hlt : k < b.size
      · have hb1 := accB_lt b k hk (by omega) hlt
        have hb2 := b[k].toNat_lt
        have hob := or_byte (accB (b.data.toList.take k)) (b[k].toNat : Int) hb1.1 hb1.2 (by omega) (by omega)
        have hnx := Aside0.mk (accB_take b k hlt)
        go_wp2
        go_roundw
        case rel => exact ⟨k + 1, by omega, by go_num, by rw [hnx.out], ⟨_, rfl⟩⟩
        case measure => simp [intOf]; omega
      · obtain rfl : k = b.size := by omega
        have haw := Aside0.mk (accB_whole b)
        go_wp2
        go_ret3
        refine ⟨?_, ⟨_, rfl⟩⟩
        rw [HG.out, if_neg (by rintro ⟨_, h⟩; have h1 := HH.out; have h2 := HZ.out; omega), haw.out]
        rfl
set_option maxHeartbeats 4000000 in
set_option maxRecDepth 100000 in
theorem codec_GetNumber_4 (s : ByteArray) (w : World) (q : 0 < s.size) (hm : hd s = 4) (h5 : 4 < s.size) :
    Calls Try.prog 61 #[.string s] w fun e w' => e = .returned (.tuple #[.int .i64 (getNum s).1, .string (getNum s).2.1, .bool (getNum s).2.2]) ∧ Drawn0 w w' := by
  have hx := hd_at q
  have en := toList_ne q
  have hg0 := getNum_is s q (by omega) (by omega)
  rw [hm] at hx hg0
  have HG := Aside0.mk hg0
  clear hg0 hm
  have hw0 : IntKind.i64.wrap (1 + 4) = 5 := rfl
  have hi0 : (1 : Int) ≤ 5 := by omega
  have hi1 : 5 ≤ s.size := by omega
  have hi2 : (5 : Int) ≤ (s.size : Int) := by omega
  have hem : decide (s = ByteArray.empty) = false := decide_eq_false (by rintro rfl; exact absurd q (by decide))
  have hbs := Aside0.mk (show (s.extract 1 5).size = 4 by rw [ByteArray.size_extract]; omega)
  go_enter Try.func61, Try.ntmps61
  go_wp2
  go_quiet (fail)
  clear en hi1 hi2 hx hw0 hi0 h5 hem
  generalize s.extract 1 5 = b at *
  have q0 : 0 < b.size := by rw [hbs.out]; omega
  have hx := hd_at q0
  have en := toList_ne q0
  have en2 : b.toList ≠ [] := by intro h; rw [h] at en; cases en
  obtain ⟨h0, hh0⟩ : ∃ h0, h0 = hd b := ⟨_, rfl⟩
  rw [← hh0] at hx
  have HH := Aside0.mk hh0
  clear hh0
  by_cases hz : (h0 : Int) = 0
  · have e1 : ((h0 : Int) == 0) = true := by simpa using hz
    have HZ := Aside0.mk hz
    clear hz
    go_wp2
    go_ret3
    refine ⟨?_, by repeat (first | exact Drawn0.refl _ | apply Drawn0.step)⟩
    rw [HG.out, if_pos ⟨by omega, by rw [← HH.out]; have := HZ.out; omega⟩]
    rfl
  · have e1 : ((h0 : Int) == 0) = false := by simpa using hz
    have HZ := Aside0.mk hz
    clear hz
    go_wp2
    clear en en2 e1 hx
    clear q0
    have hlen : (b.size : Int) = 4 := by rw [hbs.out]; rfl
    go_loopw [7, 8, 46] (fun v _ i wr => ∃ k : Nat, k ≤ b.size ∧ i = .int .i64 k ∧ v = .int .i64 (accB (b.data.toList.take k)) ∧ Drawn0 w wr) (fun _ _ i _ => b.size - (intOf i).toNat)
    case atStart => exact ⟨0, Nat.zero_le _, rfl, rfl, by repeat (first | exact Drawn0.refl _ | apply Drawn0.step)⟩
    case round =>
      obtain ⟨k, hk, rfl, rfl, ⟨n, rfl⟩⟩ := hrel
      by_cases hlt : k < b.size
      · have hb1 := accB_lt b k hk (by omega) hlt
        have hb2 := b[k].toNat_lt
        have hob := or_byte (accB (b.data.toList.take k)) (b[k].toNat : Int) hb1.1 hb1.2 (by omega) (by omega)
        have hnx := Aside0.mk (accB_take b k hlt)
        go_wp2
        go_roundw
        case rel => exact ⟨k + 1, by omega, by go_num, by rw [hnx.out], ⟨_, rfl⟩⟩
        case measure => simp [intOf]; omega
      · obtain rfl : k = b.size := by omega
        have haw := Aside0.mk (accB_whole b)
        go_wp2
        go_ret3
        refine ⟨?_, ⟨_, rfl⟩⟩
        rw [HG.out, if_neg (by rintro ⟨_, h⟩; have h1 := HH.out; have h2 := HZ.out; omega), haw.out]
        rfl
theorem codec_GetNumber.calls (a0 : ByteArray) (r1 : Int) (r2 : ByteArray) (r3 : Bool) (w : World) (h : codec_GetNumber.f a0 = some (r1, r2, r3)) :
    Calls Try.prog 61 #[.string a0] w fun e w' => e = .returned (.tuple #[.int .i64 r1, .string r2, .bool r3]) ∧ Drawn0 w w' := by
  have hg : getNum a0 = (r1, r2, r3) := by simpa [codec_GetNumber.f] using h
  by_cases hno : a0.size = 0 ∨ 4 < hd a0 ∨ a0.size ≤ hd a0
  · have h2 := getNum_no hno
    rw [hg] at h2
    simp only [Prod.mk.injEq] at h2
    obtain ⟨rfl, rfl, rfl⟩ := h2
    exact codec_GetNumber_no a0 w hno
  · have q : 0 < a0.size := by omega
    have h5 : hd a0 < a0.size := by omega
    have hm : hd a0 = 0 ∨ hd a0 = 1 ∨ hd a0 = 2 ∨ hd a0 = 3 ∨ hd a0 = 4 := by omega
    rcases hm with hm | hm | hm | hm | hm
    · have := codec_GetNumber_0 a0 w q hm (by omega); rw [hg] at this; exact this
    · have := codec_GetNumber_1 a0 w q hm (by omega); rw [hg] at this; exact this
    · have := codec_GetNumber_2 a0 w q hm (by omega); rw [hg] at this; exact this
    · have := codec_GetNumber_3 a0 w q hm (by omega); rw [hg] at this; exact this
    · have := codec_GetNumber_4 a0 w q hm (by omega); rw [hg] at this; exact this
end Go.Proofs.Ytkgcaheddhfpgaa.P
/-
  Plain laws on reading texts and rows: no program in sight.
-/
namespace Go.Proofs.CodecPlain

/-- What reads as a text at the begin of bytes. -/
def getText (s : ByteArray) : ByteArray × ByteArray × Bool :=
  if (getNum s).2.2 = true ∧ (getNum s).1 ≤ 4000 ∧ (getNum s).1 ≤ ((getNum s).2.1.size : Int) then
    ((getNum s).2.1.extract 0 (getNum s).1.toNat, (getNum s).2.1.extract (getNum s).1.toNat (getNum s).2.1.size, true)
  else (⟨#[]⟩, ⟨#[]⟩, false)
/-- What reads as n texts, one behind the other. -/
def getTexts : Nat → ByteArray → List ByteArray × ByteArray × Bool
  | 0, s => ([], s, true)
  | n + 1, s => if (getText s).2.2 = true then
      (if (getTexts n (getText s).2.1).2.2 = true then ((getText s).1 :: (getTexts n (getText s).2.1).1, (getTexts n (getText s).2.1).2.1, true) else ([], ⟨#[]⟩, false))
    else ([], ⟨#[]⟩, false)
/-- What reads as a row at the begin of bytes. -/
def getRow (s : ByteArray) : List ByteArray × ByteArray × Bool :=
  if (getNum s).2.2 = true ∧ (getNum s).1 ≤ 1000 then getTexts (getNum s).1.toNat (getNum s).2.1 else ([], ⟨#[]⟩, false)
/-- What is told where some have been read. -/
def withL (l : List ByteArray) (r : List ByteArray × ByteArray × Bool) : List ByteArray × ByteArray × Bool := if r.2.2 = true then (l ++ r.1, r.2.1, true) else ([], ⟨#[]⟩, false)

theorem getNum_bd (s : ByteArray) : 0 ≤ (getNum s).1 ∧ (getNum s).1 < 4294967296 := by
  unfold getNum
  split
  · exact ⟨by decide, by decide⟩
  · split
    · exact ⟨by decide, by decide⟩
    · rename_i h _
      have h1 := accB_bd (s.extract 1 (1 + hd s)).data.toList
      have hl : (s.extract 1 (1 + hd s)).data.toList.length = hd s := by
        rw [Array.length_toList]
        show (s.extract 1 (1 + hd s)).size = _
        rw [ByteArray.size_extract]; omega
      rw [hl] at h1
      refine ⟨h1.1, Int.lt_of_lt_of_le h1.2 ?_⟩
      have : hd s ≤ 4 := by omega
      match hd s, this with
      | 0, _ => decide
      | 1, _ => decide
      | 2, _ => decide
      | 3, _ => decide
      | 4, _ => decide
theorem getTexts_len : ∀ (n : Nat) (s : ByteArray), (getTexts n s).2.2 = true → (getTexts n s).1.length = n
  | 0, s, _ => rfl
  | n + 1, s, h => by
    unfold getTexts at h ⊢
    split at h
    · rename_i h1
      rw [if_pos h1]
      split at h
      · rename_i h2
        rw [if_pos h2]
        simp [getTexts_len n _ h2]
      · cases h
    · cases h
theorem withL_stop (l : List ByteArray) (n : Nat) (s : ByteArray) (h : (getText s).2.2 = false) : withL l (getTexts (n + 1) s) = ([], ⟨#[]⟩, false) := by
  simp [getTexts, h, withL]
theorem withL_step (l : List ByteArray) (n : Nat) (s : ByteArray) (h : (getText s).2.2 = true) : withL l (getTexts (n + 1) s) = withL (l ++ [(getText s).1]) (getTexts n (getText s).2.1) := by
  by_cases h2 : (getTexts n (getText s).2.1).2.2 = true <;> simp [getTexts, h, withL, h2]
theorem withL_nil (n : Nat) (s : ByteArray) : withL [] (getTexts n s) = getTexts n s := by
  cases n with
  | zero => simp [withL, getTexts]
  | succ n =>
    unfold getTexts
    split
    · split <;> simp [withL]
    · simp [withL]

end Go.Proofs.CodecPlain
/-
  Plain laws on numbers', texts' and rows' bytes: what is laid is read, what is read is laid. No program in sight.
-/
namespace Go.Proofs.CodecPlain

theorem ba_ext {a b : ByteArray} (h : a.data.toList = b.data.toList) : a = b := by
  cases a; cases b
  rename_i x y
  have : x = y := by cases x; cases y; simpa using h
  rw [this]
theorem ext_list (s : ByteArray) (a b : Nat) : (s.extract a b).data.toList = (s.data.toList.drop a).take (b - a) := by
  rw [ByteArray.data_extract, Array.toList_extract]
theorem app_list (a b : ByteArray) : (a ++ b).data.toList = a.data.toList ++ b.data.toList := by
  rw [ByteArray.data_append, Array.toList_append]
theorem len_list (a : ByteArray) : a.data.toList.length = a.size := by rw [Array.length_toList]; rfl

/-! ### a number's bytes -/
theorem nbytes_zero : nbytes 0 = [] := by decide
theorem tops4 (x : Int) : tops x 4 = [nbyte x 3, nbyte x 2, nbyte x 1, nbyte x 0] := rfl
theorem nbytes_rec (x : Int) (h0 : 0 < x) (h1 : x < 4294967296) : nbytes x = nbytes (x / 256) ++ [x % 256] := by
  have e3 : nbyte (x / 256) 3 = 0 := by unfold nbyte; omega
  have e2 : nbyte (x / 256) 2 = nbyte x 3 := by unfold nbyte; omega
  have e1 : nbyte (x / 256) 1 = nbyte x 2 := by unfold nbyte; omega
  have e0 : nbyte (x / 256) 0 = nbyte x 1 := by unfold nbyte; omega
  have e : nbyte x 0 = x % 256 := by unfold nbyte; omega
  have hl : nbytes (x / 256) = lead [nbyte x 3, nbyte x 2, nbyte x 1] := by
    unfold nbytes; rw [tops4, e3, e2, e1, e0]; simp [lead]
  have hr : nbytes x = lead ([nbyte x 3, nbyte x 2, nbyte x 1] ++ [x % 256]) := by
    unfold nbytes; rw [tops4, e]; rfl
  rw [hr, hl]
  by_cases hn : lead [nbyte x 3, nbyte x 2, nbyte x 1] = []
  · rw [lead_snoc_nil hn, hn]
    have : x % 256 ≠ 0 := by
      have z3 : nbyte x 3 = 0 := by
        by_cases z : nbyte x 3 = 0
        · exact z
        · simp [lead, z] at hn
      have z2 : nbyte x 2 = 0 := by
        by_cases z : nbyte x 2 = 0
        · exact z
        · simp [lead, z, z3] at hn
      have z1 : nbyte x 1 = 0 := by
        by_cases z : nbyte x 1 = 0
        · exact z
        · simp [lead, z, z2, z3] at hn
      unfold nbyte at z1 z2 z3
      omega
    rw [if_neg this]; rfl
  · rw [lead_snoc hn]
/-- A byte's number as a byte. -/
def u8 (n : Int) : UInt8 := UInt8.ofNat n.toNat
theorem u8_toNat {n : Int} (h0 : 0 ≤ n) (h1 : n < 256) : ((u8 n).toNat : Int) = n := by
  have : (u8 n).toNat = n.toNat % 256 := by simp [u8, UInt8.toNat_ofNat']
  omega
theorem u8_of (b : UInt8) : u8 (b.toNat : Int) = b := by
  apply UInt8.toNat_inj.1
  have h := b.toNat_lt
  have := u8_toNat (n := (b.toNat : Int)) (by omega) (by omega)
  omega
theorem nat_ind {P : Int → Prop} (h : ∀ x, 0 ≤ x → (∀ y, 0 ≤ y → y < x → P y) → P x) : ∀ x, 0 ≤ x → P x := by
  have key : ∀ n : Nat, ∀ x : Int, 0 ≤ x → x.toNat < n → P x := by
    intro n
    induction n with
    | zero => intro x _ hx; omega
    | succ n ih => intro x h0 hx; exact h x h0 (fun y hy hlt => ih y hy (by omega))
  exact fun x hx => key (x.toNat + 1) x hx (by omega)
theorem accB_nbytes : ∀ x : Int, 0 ≤ x → x < 4294967296 → accB ((nbytes x).map u8) = x := by
  apply nat_ind
  intro x h0 ih h1
  by_cases hz : x = 0
  · subst hz; rw [nbytes_zero]; rfl
  · rw [nbytes_rec x (by omega) h1, List.map_append, List.map_singleton, accB_snoc, ih (x / 256) (by omega) (by omega) (by omega), u8_toNat (by omega) (by omega)]
    omega
theorem nbytes_head : ∀ x : Int, 0 ≤ x → x < 4294967296 → ∀ b l, nbytes x = b :: l → 0 < b ∧ b < 256 := by
  apply nat_ind
  intro x h0 ih h1 b l hb
  by_cases hz : x = 0
  · subst hz; rw [nbytes_zero] at hb; cases hb
  · rw [nbytes_rec x (by omega) h1] at hb
    cases hc : nbytes (x / 256) with
    | nil =>
      rw [hc] at hb
      simp at hb
      by_cases hy : x / 256 = 0
      · omega
      · exfalso
        rw [nbytes_rec (x / 256) (by omega) (by omega)] at hc
        simp at hc
    | cons c m =>
      rw [hc] at hb
      simp at hb
      have := ih (x / 256) (by omega) (by omega) (by omega) c m hc
      omega
theorem nbytes_accB : ∀ (n : Nat) (l : List UInt8), l.length = n → n ≤ 4 → (∀ b m, l = b :: m → b.toNat ≠ 0) → (nbytes (accB l)).map u8 = l ∧ (l ≠ [] → 0 < accB l) := by
  intro n
  induction n with
  | zero => intro l hl _ _; cases l with | nil => exact ⟨rfl, fun h => absurd rfl h⟩ | cons _ _ => simp at hl
  | succ n ih =>
    intro l hl h4 hh
    have hne : l ≠ [] := by intro e; rw [e] at hl; simp at hl
    have hsp := List.dropLast_concat_getLast hne
    generalize l.dropLast = m at hsp
    generalize l.getLast hne = b at hsp
    subst hsp
    have hm : m.length = n := by simp at hl; exact hl
    have hb := b.toNat_lt
    have hbd := accB_bd (m ++ [b])
    have hbm := accB_bd m
    have h256 : accB (m ++ [b]) < 4294967296 := Int.lt_of_lt_of_le hbd.2 (by
      rw [hl]
      match n, h4 with
      | 0, _ => decide
      | 1, _ => decide
      | 2, _ => decide
      | 3, _ => decide)
    have hsn := accB_snoc m b
    have ih' := ih m hm (by omega) (fun c k e => hh c (k ++ [b]) (by rw [e]; rfl))
    have hpos : 0 < accB (m ++ [b]) := by
      cases m with
      | nil => have := hh b [] rfl; rw [hsn]; simp [accB]; omega
      | cons c k => have := ih'.2 (by simp); omega
    refine ⟨?_, fun _ => hpos⟩
    rw [nbytes_rec _ hpos h256]
    have e1 : accB (m ++ [b]) / 256 = accB m := by omega
    have e2 : accB (m ++ [b]) % 256 = (b.toNat : Int) := by omega
    rw [e1, e2, List.map_append, ih'.1, List.map_singleton, u8_of]

theorem numStr_list (n : Int) : (numStr n).data.toList = u8 ((nbytes n).length : Int) :: (nbytes n).map u8 := by
  simp [numStr, Go.strOfNums, u8]
theorem numStr_sz (n : Int) : (numStr n).size = 1 + (nbytes n).length := by rw [← len_list, numStr_list]; simp; omega
theorem hd_list (s : ByteArray) : hd s = match s.data.toList with | [] => 0 | b :: _ => b.toNat := by
  cases s with | mk d => cases d with | mk l =>
    cases l with
    | nil => unfold hd; rw [dif_neg (by show ¬ 0 < 0; omega)]
    | cons b l => unfold hd; rw [dif_pos (by show 0 < l.length + 1; omega)]; rfl

/-- What is laid is read. -/
theorem getNum_put (n : Int) (h0 : 0 ≤ n) (h1 : n ≤ 4294967295) (rest : ByteArray) : getNum (numStr n ++ rest) = (n, rest, true) := by
  have hl := nbytes_length n
  have hlist : (numStr n ++ rest).data.toList = u8 ((nbytes n).length : Int) :: ((nbytes n).map u8 ++ rest.data.toList) := by rw [app_list, numStr_list]; rfl
  have hhd : hd (numStr n ++ rest) = (nbytes n).length := by
    rw [hd_list, hlist]
    have := u8_toNat (n := ((nbytes n).length : Int)) (by omega) (by omega)
    show (u8 _).toNat = _
    omega
  have hsz : (numStr n ++ rest).size = 1 + (nbytes n).length + rest.size := by rw [size_append, numStr_sz]
  have hb : ((numStr n ++ rest).extract 1 (1 + (nbytes n).length)).data.toList = (nbytes n).map u8 := by
    rw [ext_list, hlist, Nat.add_sub_cancel_left, List.drop_one, List.tail_cons]
    rw [List.take_append_of_le_length (by simp)]
    rw [List.take_of_length_le (by simp)]
  have hr : (numStr n ++ rest).extract (1 + (nbytes n).length) (numStr n ++ rest).size = rest := by
    apply ba_ext
    rw [ext_list, hlist, Nat.add_comm 1, List.drop_succ_cons, List.drop_append_of_le_length (by simp), List.drop_of_length_le (by simp), List.nil_append]
    rw [List.take_of_length_le]
    rw [len_list]; omega
  unfold getNum
  rw [hhd, if_neg (by omega), if_neg, hb, hr, accB_nbytes n h0 (by omega)]
  rintro ⟨hne, hz⟩
  rw [hd_list, hb] at hz
  cases hc : nbytes n with
  | nil => rw [hc] at hne; simp at hne
  | cons b l =>
    rw [hc] at hz
    have := nbytes_head n h0 (by omega) b l hc
    have h2 := u8_toNat (n := b) (by omega) this.2
    simp at hz
    omega
/-- What is read is laid. -/
theorem getNum_got {s : ByteArray} {n : Int} {rest : ByteArray} (h : getNum s = (n, rest, true)) : 0 ≤ n ∧ n ≤ 4294967295 ∧ s = numStr n ++ rest := by
  have hbd := getNum_bd s
  rw [h] at hbd
  refine ⟨hbd.1, by have := hbd.2; simp only at this; omega, ?_⟩
  unfold getNum at h
  split at h
  · simp at h
  · rename_i h1
    split at h
    · simp at h
    · rename_i h2
      simp only [Prod.mk.injEq, and_true] at h
      obtain ⟨rfl, rfl⟩ := h
      have hbl : ((s.extract 1 (1 + hd s)).data.toList).length = hd s := by rw [len_list, ByteArray.size_extract]; omega
      have hk := nbytes_accB (hd s) _ hbl (by omega) (by
        intro b m e hz
        apply h2
        refine ⟨fun h0 => by rw [e] at hbl; simp at hbl; omega, ?_⟩
        rw [hd_list, e]; exact hz)
      apply ba_ext
      have hlen : (nbytes (accB (s.extract 1 (1 + hd s)).data.toList)).length = hd s := by
        have := congrArg List.length hk.1
        rw [List.length_map, hbl] at this
        exact this
      rw [app_list, numStr_list, hk.1, hlen, ext_list, ext_list]
      cases hs : s.data.toList with
      | nil => have := len_list s; rw [hs] at this; simp at this; omega
      | cons b l =>
        have hb : hd s = b.toNat := by rw [hd_list, hs]
        have hsz : s.size = l.length + 1 := by rw [← len_list, hs]; rfl
        rw [hb, u8_of, Nat.add_comm 1, Nat.add_sub_cancel, List.drop_one, List.tail_cons, List.drop_succ_cons, List.cons_append]
        rw [List.take_of_length_le (l := l.drop b.toNat) (by rw [List.length_drop]; omega), List.take_append_drop]

/-! ### texts -/
theorem getText_put (t : ByteArray) (h : t.size ≤ 4000) (rest : ByteArray) : getText (textStr t ++ rest) = (t, rest, true) := by
  have hg : getNum (textStr t ++ rest) = ((t.size : Int), t ++ rest, true) := by
    unfold textStr
    rw [ByteArray.append_assoc]
    exact getNum_put _ (by omega) (by omega) _
  unfold getText
  rw [hg]
  simp only
  rw [if_pos ⟨trivial, by omega, by rw [size_append]; omega⟩]
  have e1 : (t ++ rest).extract 0 (t.size : Int).toNat = t := by
    apply ba_ext; rw [ext_list, app_list, Int.toNat_natCast, List.drop_zero, Nat.sub_zero, List.take_append_of_le_length (by rw [len_list]; exact Nat.le_refl _), List.take_of_length_le (by rw [len_list]; exact Nat.le_refl _)]
  have e2 : (t ++ rest).extract (t.size : Int).toNat (t ++ rest).size = rest := by
    apply ba_ext
    rw [ext_list, app_list, Int.toNat_natCast, List.drop_append_of_le_length (by rw [len_list]; exact Nat.le_refl _), List.drop_of_length_le (by rw [len_list]; exact Nat.le_refl _), List.nil_append, size_append, Nat.add_sub_cancel_left]
    rw [List.take_of_length_le (by rw [len_list]; exact Nat.le_refl _)]
  rw [e1, e2]
theorem getText_got {s t rest : ByteArray} (h : getText s = (t, rest, true)) : t.size ≤ 4000 ∧ s = textStr t ++ rest := by
  unfold getText at h
  split at h
  · rename_i hc
    obtain ⟨n, r, ok, hn⟩ : ∃ n r ok, getNum s = (n, r, ok) := ⟨_, _, _, rfl⟩
    rw [hn] at h hc
    simp only at h hc
    obtain ⟨rfl, hc1, hc2⟩ := hc
    obtain ⟨h0, h1, hs⟩ := getNum_got hn
    simp only [Prod.mk.injEq, and_true] at h
    obtain ⟨rfl, rfl⟩ := h
    have hsz : ((r.extract 0 n.toNat).size : Int) = n := by rw [ByteArray.size_extract]; omega
    refine ⟨by omega, ?_⟩
    unfold textStr
    rw [hsz, ByteArray.append_assoc, hs]
    congr 1
    apply ba_ext
    rw [app_list, ext_list, ext_list, List.drop_zero, Nat.sub_zero]
    rw [List.take_of_length_le (l := r.data.toList.drop n.toNat) (by rw [List.length_drop, len_list]; omega), List.take_append_drop]
  · simp at h
/-! ### rows -/
theorem getTexts_put : ∀ (l : List ByteArray) (_ : ∀ t ∈ l, t.size ≤ 4000) (rest : ByteArray), getTexts l.length (catStr (l.map textStr) ++ rest) = (l, rest, true)
  | [], _, rest => by
    have : (⟨#[]⟩ : ByteArray) ++ rest = rest := ba_ext (by rw [app_list]; rfl)
    simp [getTexts, catStr, this]
  | t :: l, h, rest => by
    have hg : getText (catStr ((t :: l).map textStr) ++ rest) = (t, catStr (l.map textStr) ++ rest, true) := by
      rw [List.map_cons, catStr, ByteArray.append_assoc]
      exact getText_put t (h t List.mem_cons_self) _
    have ih := getTexts_put l (fun x hx => h x (List.mem_cons_of_mem _ hx)) rest
    rw [List.length_cons, getTexts, hg]
    simp [ih]
theorem getRow_put (l : List ByteArray) (hl : l.length ≤ 1000) (h : ∀ t ∈ l, t.size ≤ 4000) (rest : ByteArray) : getRow (rowStr l ++ rest) = (l, rest, true) := by
  have hg : getNum (rowStr l ++ rest) = ((l.length : Int), catStr (l.map textStr) ++ rest, true) := by
    unfold rowStr
    rw [ByteArray.append_assoc]
    exact getNum_put _ (by omega) (by omega) _
  unfold getRow
  rw [hg]
  simp only
  rw [if_pos ⟨trivial, by omega⟩, Int.toNat_natCast]
  exact getTexts_put l h rest
end Go.Proofs.CodecPlain
/-
  codec.bytes, by hand: what the iterator gives to whatever loop. For every number that has bytes.
-/
namespace Go.Proofs.Ytkgcaheddhfpgaa.P
open Go.RowKit Go.Shelf Go.Proofs.CodecPlain

attribute [local go_sem] Oper.semAt_some

set_option maxHeartbeats 1000000 in
/-- 'bytes(n)': n lies in a block of its own; the function value captures it. -/
theorem codec_bytes_in (F : Fence) (m : Nat) (h : F.fn 48) (hro : F.round = none) (n : Int) (w : World) :
    CallsIn F m Try.prog 48 #[.int .i64 n] w fun e w' => e = .returned (.func (.func 62) #[] #[.pointer (some ⟨w.heap.size, 0, none⟩)]) ∧ w' = w.alloc (.cells #[.int .i64 n] 3) := by
  refine callsIn_of_wp Try.func48 rfl h ?_ hro
  simp only [Try.ntmps48, List.size_toArray, List.length_cons, List.length_nil, Nat.reduceAdd, Nat.reduceSub, Array.replicate_succ, Array.replicate_zero, List.push_toArray, List.append_toArray, List.nil_append, List.cons_append]
  gi_wp2
  go_ret
  exact ⟨rfl, rfl⟩

theorem step_zero (n : Int) (j : Nat) (e : Int) (h : As (nbyte n (3 - j) = e)) (hb : As (false = !(lead (tops n j)).isEmpty)) (hz : e = 0) :
    As (false = !(lead (tops n (j + 1))).isEmpty ∧ lead (tops n j) = lead (tops n (j + 1))) := by
  have h0 : lead (tops n j) = [] := by have := hb.out; simpa using this.symm
  have := lead_snoc_nil h0 (nbyte n (3 - j))
  rw [h.out, if_pos hz] at this
  constructor
  simp [tops, h.out, this, h0]
theorem step_on (n : Int) (j : Nat) (e : Int) (h : As (nbyte n (3 - j) = e)) (hb : As (true = !(lead (tops n j)).isEmpty) ∨ ¬ e = 0) :
    As (true = !(lead (tops n (j + 1))).isEmpty ∧ lead (tops n j) ++ [e] = lead (tops n (j + 1))) := by
  have hk : lead (tops n (j + 1)) = lead (tops n j) ++ [e] := by
    by_cases h0 : lead (tops n j) = []
    · have := lead_snoc_nil h0 (nbyte n (3 - j))
      rw [h.out, if_neg (hb.elim (fun z => by have := z.out; simp [h0] at this) id)] at this
      simp [tops, h.out, this, h0]
    · have := lead_snoc h0 (nbyte n (3 - j))
      rw [h.out] at this
      simp [tops, h.out, this]
  exact ⟨by simp [hk], hk.symm⟩

set_option maxRecDepth 100000 in
set_option maxHeartbeats 4000000 in
theorem codec_bytes1_in (F : Fence) (m : Nat) (h : F.fn 62) (hro : F.round = none) (hm : 1 ≤ m) (l Bn : Nat) (n : Int) (h0n : 0 ≤ n) (h1n : n ≤ 4294967295) (J Jx : List Int → World → Prop)
    (hY : ∀ pre x W, J pre W → pre.length < 4 → YieldAt F (m - 1) Try.prog l #[.int .u8 x] W fun e W' =>
      (e = .returned (.bool true) ∧ J (pre ++ [x]) W' ∧ (∀ v, Boxed W Bn 3 v → Boxed W' Bn 3 v)) ∨ (e = .returned (.bool false) ∧ Jx (pre ++ [x]) W'))
    (W : World) (hBn : Boxed W Bn 3 (.int .i64 n)) (h0 : J [] W) :
    CallsIn F m Try.prog 62 #[.func (.yield l) #[] #[], .pointer (some ⟨Bn, 0, none⟩)] W fun e W' => (∃ v, e = .returned v) ∧
      ((∃ ys, ys = nbytes n ∧ J ys W') ∨ (∃ pre, True ∧ Jx pre W')) := by
  refine callsIn_of_wp Try.func62 rfl h ?_ hro
  simp only [Try.ntmps62, List.size_toArray, List.length_cons, List.length_nil, Nat.reduceAdd, Nat.reduceSub, Array.replicate_succ, Array.replicate_zero, List.push_toArray, List.append_toArray, List.nil_append, List.cons_append]
  gi_wp2
  gi_loopw [3, 4] (fun s k wr => ∃ (j : Nat) (z : Int) (b : Bool), As ((j = 0 ∧ z = 3) ∨ (j = 1 ∧ z = 2) ∨ (j = 2 ∧ z = 1) ∨ (j = 3 ∧ z = 0) ∨ (j = 4 ∧ z = -1)) ∧ s = .bool b ∧ k = .int .i64 z ∧ As (b = !(lead (tops n j)).isEmpty) ∧ As (Boxed wr Bn 3 (.int .i64 n)) ∧ J (lead (tops n j)) wr)
    (fun _ k _ => (intOf k + 1).toNat)
  case atStart => exact ⟨0, 3, false, ⟨.inl ⟨rfl, rfl⟩⟩, rfl, rfl, ⟨rfl⟩, ⟨hBn⟩, h0⟩
  case round =>
    obtain ⟨j, z, b, hjz, rfl, rfl, hb, hbx, hJ⟩ := hrel
    have hc := hbx.out.cell
    rcases hjz.out with ⟨rfl, rfl⟩ | ⟨rfl, rfl⟩ | ⟨rfl, rfl⟩ | ⟨rfl, rfl⟩ | ⟨rfl, rfl⟩
    · clear hjz
      have hbyte : As (nbyte n 3 = n / 16777216) := ⟨by unfold nbyte; omega⟩
      by_cases hz : n / 16777216 = 0
      · cases b
        · have hnew := step_zero n 0 (n / 16777216) hbyte hb hz
          have e1 : (n / 16777216 == 0) = true := by simpa using hz
          have e2 : (n / 16777216 != 0) = false := by simpa using hz
          clear hz
          gi_wp2
          refine ⟨fun _ h => (by cases h), ?_⟩
          gi_wp2
          go_roundw
          case rel => exact ⟨1, (2), false, ⟨(.inr (.inl ⟨rfl, rfl⟩))⟩, rfl, rfl, ⟨hnew.out.1⟩, hbx, hnew.out.2 ▸ hJ⟩
          case measure => simp [intOf]
        · have hnew := step_on n 0 (n / 16777216) hbyte (.inl hb)
          have e1 : (n / 16777216 == 0) = true := by simpa using hz
          have e2 : (n / 16777216 != 0) = false := by simpa using hz
          clear hz
          obtain ⟨fn, tmps, assign, body, hy, hR⟩ := hY (lead (tops n 0)) (n / 16777216) wr hJ (by have := lead_length (tops n 0); rw [tops_length] at this; omega)
          gi_wp2
          refine hR.mono ?_
          rintro e W3 (⟨rfl, hJ3, hk3⟩ | ⟨rfl, hJx3⟩)
          · have hb3 := (hk3 _ hbx.out); clear hk3
            gi_wp2
            go_roundw
            case rel => exact ⟨1, (2), true, ⟨(.inr (.inl ⟨rfl, rfl⟩))⟩, rfl, rfl, ⟨hnew.out.1⟩, ⟨hb3⟩, hnew.out.2 ▸ hJ3⟩
            case measure => simp [intOf]
          · gi_wp2
            refine bodyPost_ret (results_none rfl _ _ _) rfl ?_
            exact ⟨⟨_, rfl⟩, .inr ⟨_, trivial, hJx3⟩⟩
      · have hnew := step_on n 0 (n / 16777216) hbyte (.inr hz)
        have e1 : (n / 16777216 == 0) = false := by simpa using hz
        have e2 : (n / 16777216 != 0) = true := by simpa using hz
        clear hz
        cases b
        · clear hb
          obtain ⟨fn, tmps, assign, body, hy, hR⟩ := hY (lead (tops n 0)) (n / 16777216) wr hJ (by have := lead_length (tops n 0); rw [tops_length] at this; omega)
          gi_wp2
          refine hR.mono ?_
          rintro e W3 (⟨rfl, hJ3, hk3⟩ | ⟨rfl, hJx3⟩)
          · have hb3 := (hk3 _ hbx.out); clear hk3
            gi_wp2
            go_roundw
            case rel => exact ⟨1, (2), true, ⟨(.inr (.inl ⟨rfl, rfl⟩))⟩, rfl, rfl, ⟨hnew.out.1⟩, ⟨hb3⟩, hnew.out.2 ▸ hJ3⟩
            case measure => simp [intOf]
          · gi_wp2
            refine bodyPost_ret (results_none rfl _ _ _) rfl ?_
            exact ⟨⟨_, rfl⟩, .inr ⟨_, trivial, hJx3⟩⟩
        · clear hb
          obtain ⟨fn, tmps, assign, body, hy, hR⟩ := hY (lead (tops n 0)) (n / 16777216) wr hJ (by have := lead_length (tops n 0); rw [tops_length] at this; omega)
          gi_wp2
          refine hR.mono ?_
          rintro e W3 (⟨rfl, hJ3, hk3⟩ | ⟨rfl, hJx3⟩)
          · have hb3 := (hk3 _ hbx.out); clear hk3
            gi_wp2
            go_roundw
            case rel => exact ⟨1, (2), true, ⟨(.inr (.inl ⟨rfl, rfl⟩))⟩, rfl, rfl, ⟨hnew.out.1⟩, ⟨hb3⟩, hnew.out.2 ▸ hJ3⟩
            case measure => simp [intOf]
          · gi_wp2
            refine bodyPost_ret (results_none rfl _ _ _) rfl ?_
            exact ⟨⟨_, rfl⟩, .inr ⟨_, trivial, hJx3⟩⟩
    · clear hjz
      have hbyte : As (nbyte n 2 = n / 65536 % 256) := ⟨by unfold nbyte; omega⟩
      by_cases hz : n / 65536 % 256 = 0
      · cases b
        · have hnew := step_zero n 1 (n / 65536 % 256) hbyte hb hz
          have e1 : (n / 65536 % 256 == 0) = true := by simpa using hz
          have e2 : (n / 65536 % 256 != 0) = false := by simpa using hz
          clear hz
          gi_wp2
          refine ⟨fun _ h => (by cases h), ?_⟩
          gi_wp2
          go_roundw
          case rel => exact ⟨2, (1), false, ⟨(.inr (.inr (.inl ⟨rfl, rfl⟩)))⟩, rfl, rfl, ⟨hnew.out.1⟩, hbx, hnew.out.2 ▸ hJ⟩
          case measure => simp [intOf]
        · have hnew := step_on n 1 (n / 65536 % 256) hbyte (.inl hb)
          have e1 : (n / 65536 % 256 == 0) = true := by simpa using hz
          have e2 : (n / 65536 % 256 != 0) = false := by simpa using hz
          clear hz
          obtain ⟨fn, tmps, assign, body, hy, hR⟩ := hY (lead (tops n 1)) (n / 65536 % 256) wr hJ (by have := lead_length (tops n 1); rw [tops_length] at this; omega)
          gi_wp2
          refine hR.mono ?_
          rintro e W3 (⟨rfl, hJ3, hk3⟩ | ⟨rfl, hJx3⟩)
          · have hb3 := (hk3 _ hbx.out); clear hk3
            gi_wp2
            go_roundw
            case rel => exact ⟨2, (1), true, ⟨(.inr (.inr (.inl ⟨rfl, rfl⟩)))⟩, rfl, rfl, ⟨hnew.out.1⟩, ⟨hb3⟩, hnew.out.2 ▸ hJ3⟩
            case measure => simp [intOf]
          · gi_wp2
            refine bodyPost_ret (results_none rfl _ _ _) rfl ?_
            exact ⟨⟨_, rfl⟩, .inr ⟨_, trivial, hJx3⟩⟩
      · have hnew := step_on n 1 (n / 65536 % 256) hbyte (.inr hz)
        have e1 : (n / 65536 % 256 == 0) = false := by simpa using hz
        have e2 : (n / 65536 % 256 != 0) = true := by simpa using hz
        clear hz
        cases b
        · clear hb
          obtain ⟨fn, tmps, assign, body, hy, hR⟩ := hY (lead (tops n 1)) (n / 65536 % 256) wr hJ (by have := lead_length (tops n 1); rw [tops_length] at this; omega)
          gi_wp2
          refine hR.mono ?_
          rintro e W3 (⟨rfl, hJ3, hk3⟩ | ⟨rfl, hJx3⟩)
          · have hb3 := (hk3 _ hbx.out); clear hk3
            gi_wp2
            go_roundw
            case rel => exact ⟨2, (1), true, ⟨(.inr (.inr (.inl ⟨rfl, rfl⟩)))⟩, rfl, rfl, ⟨hnew.out.1⟩, ⟨hb3⟩, hnew.out.2 ▸ hJ3⟩
            case measure => simp [intOf]
          · gi_wp2
            refine bodyPost_ret (results_none rfl _ _ _) rfl ?_
            exact ⟨⟨_, rfl⟩, .inr ⟨_, trivial, hJx3⟩⟩
        · clear hb
          obtain ⟨fn, tmps, assign, body, hy, hR⟩ := hY (lead (tops n 1)) (n / 65536 % 256) wr hJ (by have := lead_length (tops n 1); rw [tops_length] at this; omega)
          gi_wp2
          refine hR.mono ?_
          rintro e W3 (⟨rfl, hJ3, hk3⟩ | ⟨rfl, hJx3⟩)
          · have hb3 := (hk3 _ hbx.out); clear hk3
            gi_wp2
            go_roundw
            case rel => exact ⟨2, (1), true, ⟨(.inr (.inr (.inl ⟨rfl, rfl⟩)))⟩, rfl, rfl, ⟨hnew.out.1⟩, ⟨hb3⟩, hnew.out.2 ▸ hJ3⟩
            case measure => simp [intOf]
          · gi_wp2
            refine bodyPost_ret (results_none rfl _ _ _) rfl ?_
            exact ⟨⟨_, rfl⟩, .inr ⟨_, trivial, hJx3⟩⟩
    · clear hjz
      have hbyte : As (nbyte n 1 = n / 256 % 256) := ⟨by unfold nbyte; omega⟩
      by_cases hz : n / 256 % 256 = 0
      · cases b
        · have hnew := step_zero n 2 (n / 256 % 256) hbyte hb hz
          have e1 : (n / 256 % 256 == 0) = true := by simpa using hz
          have e2 : (n / 256 % 256 != 0) = false := by simpa using hz
          clear hz
          gi_wp2
          refine ⟨fun _ h => (by cases h), ?_⟩
          gi_wp2
          go_roundw
          case rel => exact ⟨3, (0), false, ⟨(.inr (.inr (.inr (.inl ⟨rfl, rfl⟩))))⟩, rfl, rfl, ⟨hnew.out.1⟩, hbx, hnew.out.2 ▸ hJ⟩
          case measure => simp [intOf]
        · have hnew := step_on n 2 (n / 256 % 256) hbyte (.inl hb)
          have e1 : (n / 256 % 256 == 0) = true := by simpa using hz
          have e2 : (n / 256 % 256 != 0) = false := by simpa using hz
          clear hz
          obtain ⟨fn, tmps, assign, body, hy, hR⟩ := hY (lead (tops n 2)) (n / 256 % 256) wr hJ (by have := lead_length (tops n 2); rw [tops_length] at this; omega)
          gi_wp2
          refine hR.mono ?_
          rintro e W3 (⟨rfl, hJ3, hk3⟩ | ⟨rfl, hJx3⟩)
          · have hb3 := (hk3 _ hbx.out); clear hk3
            gi_wp2
            go_roundw
            case rel => exact ⟨3, (0), true, ⟨(.inr (.inr (.inr (.inl ⟨rfl, rfl⟩))))⟩, rfl, rfl, ⟨hnew.out.1⟩, ⟨hb3⟩, hnew.out.2 ▸ hJ3⟩
            case measure => simp [intOf]
          · gi_wp2
            refine bodyPost_ret (results_none rfl _ _ _) rfl ?_
            exact ⟨⟨_, rfl⟩, .inr ⟨_, trivial, hJx3⟩⟩
      · have hnew := step_on n 2 (n / 256 % 256) hbyte (.inr hz)
        have e1 : (n / 256 % 256 == 0) = false := by simpa using hz
        have e2 : (n / 256 % 256 != 0) = true := by simpa using hz
        clear hz
        cases b
        · clear hb
          obtain ⟨fn, tmps, assign, body, hy, hR⟩ := hY (lead (tops n 2)) (n / 256 % 256) wr hJ (by have := lead_length (tops n 2); rw [tops_length] at this; omega)
          gi_wp2
          refine hR.mono ?_
          rintro e W3 (⟨rfl, hJ3, hk3⟩ | ⟨rfl, hJx3⟩)
          · have hb3 := (hk3 _ hbx.out); clear hk3
            gi_wp2
            go_roundw
            case rel => exact ⟨3, (0), true, ⟨(.inr (.inr (.inr (.inl ⟨rfl, rfl⟩))))⟩, rfl, rfl, ⟨hnew.out.1⟩, ⟨hb3⟩, hnew.out.2 ▸ hJ3⟩
            case measure => simp [intOf]
          · gi_wp2
            refine bodyPost_ret (results_none rfl _ _ _) rfl ?_
            exact ⟨⟨_, rfl⟩, .inr ⟨_, trivial, hJx3⟩⟩
        · clear hb
          obtain ⟨fn, tmps, assign, body, hy, hR⟩ := hY (lead (tops n 2)) (n / 256 % 256) wr hJ (by have := lead_length (tops n 2); rw [tops_length] at this; omega)
          gi_wp2
          refine hR.mono ?_
          rintro e W3 (⟨rfl, hJ3, hk3⟩ | ⟨rfl, hJx3⟩)
          · have hb3 := (hk3 _ hbx.out); clear hk3
            gi_wp2
            go_roundw
            case rel => exact ⟨3, (0), true, ⟨(.inr (.inr (.inr (.inl ⟨rfl, rfl⟩))))⟩, rfl, rfl, ⟨hnew.out.1⟩, ⟨hb3⟩, hnew.out.2 ▸ hJ3⟩
            case measure => simp [intOf]
          · gi_wp2
            refine bodyPost_ret (results_none rfl _ _ _) rfl ?_
            exact ⟨⟨_, rfl⟩, .inr ⟨_, trivial, hJx3⟩⟩
    · clear hjz
      have hbyte : As (nbyte n 0 = n % 256) := ⟨by unfold nbyte; omega⟩
      by_cases hz : n % 256 = 0
      · cases b
        · have hnew := step_zero n 3 (n % 256) hbyte hb hz
          have e1 : (n % 256 == 0) = true := by simpa using hz
          have e2 : (n % 256 != 0) = false := by simpa using hz
          clear hz
          gi_wp2
          refine ⟨fun _ h => (by cases h), ?_⟩
          gi_wp2
          go_roundw
          case rel => exact ⟨4, (-1), false, ⟨(.inr (.inr (.inr (.inr ⟨rfl, rfl⟩))))⟩, rfl, rfl, ⟨hnew.out.1⟩, hbx, hnew.out.2 ▸ hJ⟩
          case measure => simp [intOf]
        · have hnew := step_on n 3 (n % 256) hbyte (.inl hb)
          have e1 : (n % 256 == 0) = true := by simpa using hz
          have e2 : (n % 256 != 0) = false := by simpa using hz
          clear hz
          obtain ⟨fn, tmps, assign, body, hy, hR⟩ := hY (lead (tops n 3)) (n % 256) wr hJ (by have := lead_length (tops n 3); rw [tops_length] at this; omega)
          gi_wp2
          refine hR.mono ?_
          rintro e W3 (⟨rfl, hJ3, hk3⟩ | ⟨rfl, hJx3⟩)
          · have hb3 := (hk3 _ hbx.out); clear hk3
            gi_wp2
            go_roundw
            case rel => exact ⟨4, (-1), true, ⟨(.inr (.inr (.inr (.inr ⟨rfl, rfl⟩))))⟩, rfl, rfl, ⟨hnew.out.1⟩, ⟨hb3⟩, hnew.out.2 ▸ hJ3⟩
            case measure => simp [intOf]
          · gi_wp2
            refine bodyPost_ret (results_none rfl _ _ _) rfl ?_
            exact ⟨⟨_, rfl⟩, .inr ⟨_, trivial, hJx3⟩⟩
      · have hnew := step_on n 3 (n % 256) hbyte (.inr hz)
        have e1 : (n % 256 == 0) = false := by simpa using hz
        have e2 : (n % 256 != 0) = true := by simpa using hz
        clear hz
        cases b
        · clear hb
          obtain ⟨fn, tmps, assign, body, hy, hR⟩ := hY (lead (tops n 3)) (n % 256) wr hJ (by have := lead_length (tops n 3); rw [tops_length] at this; omega)
          gi_wp2
          refine hR.mono ?_
          rintro e W3 (⟨rfl, hJ3, hk3⟩ | ⟨rfl, hJx3⟩)
          · have hb3 := (hk3 _ hbx.out); clear hk3
            gi_wp2
            go_roundw
            case rel => exact ⟨4, (-1), true, ⟨(.inr (.inr (.inr (.inr ⟨rfl, rfl⟩))))⟩, rfl, rfl, ⟨hnew.out.1⟩, ⟨hb3⟩, hnew.out.2 ▸ hJ3⟩
            case measure => simp [intOf]
          · gi_wp2
            refine bodyPost_ret (results_none rfl _ _ _) rfl ?_
            exact ⟨⟨_, rfl⟩, .inr ⟨_, trivial, hJx3⟩⟩
        · clear hb
          obtain ⟨fn, tmps, assign, body, hy, hR⟩ := hY (lead (tops n 3)) (n % 256) wr hJ (by have := lead_length (tops n 3); rw [tops_length] at this; omega)
          gi_wp2
          refine hR.mono ?_
          rintro e W3 (⟨rfl, hJ3, hk3⟩ | ⟨rfl, hJx3⟩)
          · have hb3 := (hk3 _ hbx.out); clear hk3
            gi_wp2
            go_roundw
            case rel => exact ⟨4, (-1), true, ⟨(.inr (.inr (.inr (.inr ⟨rfl, rfl⟩))))⟩, rfl, rfl, ⟨hnew.out.1⟩, ⟨hb3⟩, hnew.out.2 ▸ hJ3⟩
            case measure => simp [intOf]
          · gi_wp2
            refine bodyPost_ret (results_none rfl _ _ _) rfl ?_
            exact ⟨⟨_, rfl⟩, .inr ⟨_, trivial, hJx3⟩⟩
    · clear hjz
      gi_wp2
      go_end0
      exact ⟨⟨_, rfl⟩, .inl ⟨_, rfl, hJ⟩⟩
end Go.Proofs.Ytkgcaheddhfpgaa.P
/-
  codec.Number, by hand: its text for numbers 0 to 4294967295, an error for others. For every int.
-/
namespace Go.Proofs.Ytkgcaheddhfpgaa.P
open Go.RowKit Go.Shelf Go.Proofs.CodecPlain Go.Proofs.YtkgcaheddhfpgaaW.PrintWords

attribute [local go_sem] Oper.semAt_some

/-! NUMBER -/
theorem codec_bytes_stops (F : Fence) (m : Nat) (h : F.fn 62) (hro : F.round = none) (hm : 1 ≤ m) (Bn : Nat) (n : Int) (h0n : 0 ≤ n) (h1n : n ≤ 4294967295) (w : World)
    (hc : Boxed w Bn 3 (.int .i64 n)) :
    SeqStopsK F m Try.prog 62 #[.pointer (some ⟨Bn, 0, none⟩)] (fun x : Int => #[Value.int .u8 x]) (fun W W' => ∀ v, Boxed W Bn 3 v → Boxed W' Bn 3 v) (fun ys => ys = nbytes n) (fun _ => True) 4 w := fun l J Jx W hW _ _ hY h0 =>
  codec_bytes1_in F m h hro hm l Bn n h0n h1n J Jx hY W ((hW.block Bn hc.lt).trans hc) h0

theorem boxK_b {w : World} (Bn : Nat) (T : TypeId) (W : World) (l : Nat) (o o' : Obj) (_ : w.heap.size ≤ l) (h : W.heap[l]? = some o) (hn : o.isCells = false) (_ : o.isWalk = false) : ∀ v, Boxed W Bn T v → Boxed (W.putObj l o') Bn T v := fun v hv =>
  hv.kept (grownBy_putObj' W l o') (fun e => by cases e; rw [show W.heap[Bn]? = _ from hv] at h; cases h; cases hn)

theorem infoU8 : (Try.prog.info? 5).map (fun i => (i.zero, i.size, i.bytes)) = some (some (.int .u8 0), 1, 1) := by kernel_rfl

set_option maxRecDepth 100000 in
set_option maxHeartbeats 4000000 in
theorem codec_Number_in (F : Fence) (m : Nat) (h10 : F.fn 30) (h25 : F.fn 48) (h29 : F.fn 62) (hro : F.round = none) (hm : 3 ≤ m) (n : Int) (h0n : 0 ≤ n) (h1n : n ≤ 4294967295) (w : World) :
    CallsIn F m Try.prog 30 #[.int .i64 n] w fun e W' => e = .returned (.tuple #[.string (numStr n), .int .i64 0]) ∧ Below w.heap.size w W' := by
  have h1 : 1 ≤ m := by omega
  obtain ⟨i0, hi, hz0, hz1, hz2⟩ := info_parts infoU8
  refine callsIn_of_wp_marks Try.func30 rfl h10 ?_ hro
  simp only [Try.ntmps30, List.size_toArray, List.length_cons, List.length_nil, Nat.reduceAdd, Nat.reduceSub, Array.replicate_succ, Array.replicate_zero, List.push_toArray, List.append_toArray, List.nil_append, List.cons_append]
  gi_wp2_with (gi_at_call 48; refine (codec_bytes_in F (m - 1) h25 hro _ _).mono ?_; rintro e w' ⟨rfl, rfl⟩)
  have bL := Boxed.new (w.alloc (Obj.cells #[Value.int IntKind.u8 0] 5)) 92 (.slice (some ⟨w.heap.size, 0, none⟩) 1 1)
  have bN := Boxed.new ((w.alloc (Obj.cells #[Value.int IntKind.u8 0] 5)).alloc (Obj.cells #[Value.slice (some ⟨w.heap.size, 0, none⟩) 1 1] 92)) 3 (.int .i64 n)
  simp only [World.size_alloc] at bL bN
  have hB0 : Below w.heap.size w (((w.alloc (Obj.cells #[Value.int IntKind.u8 0] 5)).alloc (Obj.cells #[Value.slice (some ⟨w.heap.size, 0, none⟩) 1 1] 92)).alloc (Obj.cells #[Value.int IntKind.i64 n] 3)) := (((Below.refl _ w).alloc (Nat.le_refl _) _).alloc (by simp) _).alloc (by simp; omega) _
  have hown0 : (w.alloc (Obj.cells #[Value.int IntKind.u8 0] 5)).ownsRow w.heap.size 5 1 (.slice (some ⟨w.heap.size, 0, none⟩) 1 1) (([] : List Int).length + 1) (nums .u8 (0 :: [])) :=
    World.ownsRow_lit w #[.int .u8 0] 1 (Nat.le_refl _) (by simp [maxLen]) rfl
  refine wpIn_rangeFunc_ownG hro h1 (gf := 62) (lb := #[.pointer (some ⟨w.heap.size + 1 + 1, 0, none⟩)]) rfl h29 (enters_of Try.func62 (by kernel_rfl) rfl)
    (codec_bytes_stops F (m - 1) h29 hro (by omega) (w.heap.size + 1 + 1) n h0n h1n _ bN) (fun h k v hv => k v (h v hv)) (boxK_b _ _) (Below.refl _ _) (fun _ => rfl)
    (fun pre W => ((∃ v, Boxed W (w.heap.size + 1) 92 v ∧ W.ownsRow w.heap.size 5 1 v (pre.length + 1) (nums .u8 (0 :: pre)) ∧ True)) ∧ Below w.heap.size w W)
    (fun _ _ _ => False)
    (OwnFrom.and (Own.from (holdsRow_own w.heap.size (w.heap.size + 1) 92 5 1 (fun pre => pre.length + 1) (fun pre => nums .u8 (0 :: pre)) (fun _ _ => True)) _) (ownFrom_below (Nat.le_refl _) (by simp; omega)))
    (fun _ _ _ _ _ hs _ _ => hs)
    ⟨⟨_, bL.alloc _, (hown0.alloc _).alloc _, trivial⟩, hB0⟩
    (fun x => {
      tmps :=
        #[Value.int IntKind.i64 n, undef, Value.string { data := #[] }, Value.int IntKind.i64 0,
          Value.pointer (some { block := w.heap.size + 1, off := 0 }), Value.int IntKind.u8 x, Value.int IntKind.i64 n,
          Value.bool (decide (n < 0)), Value.bool (decide (n < 0)), Value.int IntKind.i64 n,
          Value.bool (decide (4294967295 < n)), Value.bool (decide (n < 0) || decide (4294967295 < n)),
          Value.slice (some { block := w.heap.size, off := 0 }) 1 1, Value.int IntKind.i64 n,
          Value.func (Fn.func 62) #[] #[Value.pointer (some { block := w.heap.size + 1 + 1, off := 0 })], Value.int IntKind.u8 x, undef,
          undef, undef, undef, undef, undef, undef, undef, undef, undef, undef, undef],
      defers := [] }) ?assign ?body ?done ?stop
  case assign =>
    intro l x W K hK
    gi_wp2
    exact hK
  case body =>
    rintro l pre x W ⟨⟨v, hv, hrow, _⟩, hB⟩ hlt
    have hc := hv.cell
    gi_wp2_with (gi_at_builtin; refine wpListIn_append_own _ rfl _ _ 92 rfl w.heap.size 5 i0 (.int .u8 0) 1 1 Try.underlying92 hi hz0 hz1 hz2 rfl (by decide) _ _ _ rfl (hrow.alloc _) ⟨W.heap.size, 0, none⟩ 1 1 [.int .u8 x] rfl rfl (cell_one_new _ _ _) (by simp [Value.oneCell']) (by simp [maxLen]; omega) (by omega) (by have := hB.size; simp; omega) ?_; intro v' w1 hown' hgrow _; obtain ⟨g', cap', rfl⟩ := ownsRow_succ hown'; obtain ⟨hv1, hv2, hr2, hk2, hb2⟩ := hv.appended (by decide) hrow hB.size (by omega) hown' hgrow; have hc1 := hv1.cell; have hf1 := hv1.frozen)
    refine ⟨hk2.from _, fun u hu => ?_, ⟨⟨_, hv2, ?_, trivial⟩, hB.trans hb2⟩⟩
    · have hu1 := (hu.alloc (.cells #[.int .u8 x] 5)).kept hgrow (hu.not_row (by decide) hrow)
      exact hu1.other (by omega) _
    · simpa [nums] using hr2
  case done =>
    rintro D ys W hD rfl ⟨⟨v, hv, hrow, _⟩, hB⟩ hK
    obtain ⟨g, cap, rfl⟩ := ownsRow_succ hrow
    have hc := hv.cell
    have hl4 := nbytes_length n
    have hne := (hv.not_row (by decide) hrow)
    have hgne : w.heap.size + 1 ≠ g := fun e => hne (by rw [e]; rfl)
    have hcg : W.cell? ⟨g, 0, none⟩ = some (.int .u8 0) := by rw [hrow.cellAt 0 (by omega)]; rfl
    have hfg : W.frozen? ⟨g, 0, none⟩ = false := hrow.frozenAt 0
    obtain ⟨hrow1, hgr1⟩ := hrow.stored 0 (.int .u8 ((nbytes n).length : Int))
    have hrow2 : (W.setCell ⟨g, 0, none⟩ (.int .u8 ((nbytes n).length : Int))).ownsRow w.heap.size 5 1 (.slice (some ⟨g, 0, none⟩) ((nbytes n).length + 1) cap) ((nbytes n).length + 1) (nums .u8 (((nbytes n).length : Int) :: nbytes n)) := by simpa [nums] using hrow1
    have hv1 := hv.other hgne (.int .u8 ((nbytes n).length : Int))
    have hc1 := hv1.cell
    have hcv := own_string (P := Try.prog) Try.underlying92 Try.underlying5 Try.underlying9 hrow2
    have hB2 : Below w.heap.size w (W.setCell ⟨g, 0, none⟩ (.int .u8 ((nbytes n).length : Int))) := hB.grown hgr1 hB.size (fun k e => by cases e; exact own_base hrow g rfl)
    have hK2 := (KeepsOthers.setCell W ⟨g, 0, none⟩ (.int .u8 ((nbytes n).length : Int))).same D _ hK rfl
    clear hrow1 hrow2 hgr1 hv1 hrow hv hne hK
    gi_wp2
    refine ⟨by simp, .inl ⟨_, _, rfl, run_takeDeferred hK2, ?_⟩⟩
    exact ⟨_, results_tmp2 rfl _ _ _, rfl, hB2.trans (belowK_b (w := w) (Nat.le_refl _) _ D _ _ (by simp at hD; omega) hK2 rfl rfl)⟩
  case stop =>
    rintro D c pre W _ _ h _
    exact h.elim

/-- What codec.Number answers. -/
def codec_Number.f (a0 : Int) : Option (ByteArray × Int) := if 0 ≤ a0 ∧ a0 ≤ 4294967295 then some (numStr a0, 0) else some (⟨#[]⟩, 1)

set_option maxHeartbeats 1000000 in
theorem codec_Number.bad (n : Int) (h : n < 0 ∨ 4294967295 < n) (w : World) :
    Calls Try.prog 30 #[.int .i64 n] w fun e w' => e = .returned (.tuple #[.string ⟨#[]⟩, .int .i64 1]) ∧ w' = w := by
  rcases h with h | h
  · have e1 : decide (n < 0) = true := decide_eq_true h
    clear h
    go_enter Try.func30, Try.ntmps30
    go_wp2
    go_ret2
    exact ⟨rfl, rfl⟩
  · have e1 : decide (n < 0) = false := decide_eq_false (by omega)
    have e2 : decide (4294967295 < n) = true := decide_eq_true h
    clear h
    go_enter Try.func30, Try.ntmps30
    go_wp2
    go_ret2
    exact ⟨rfl, rfl⟩

theorem codec_Number.calls (a0 : Int) (r1 : ByteArray) (r2 : Int) (w : World) (h : codec_Number.f a0 = some (r1, r2)) :
    Calls Try.prog 30 #[.int .i64 a0] w fun e w' => e = .returned (.tuple #[.string r1, .int .i64 r2]) ∧ Below w.heap.size w w' := by
  unfold codec_Number.f at h
  split at h
  · rename_i hn
    simp only [Option.some.injEq, Prod.mk.injEq] at h
    obtain ⟨rfl, rfl⟩ := h
    exact (callsIn_wide (n := 3)).1 (codec_Number_in Fence.wide 3 trivial trivial trivial rfl (by omega) a0 hn.1 hn.2 w)
  · rename_i hn
    simp only [Option.some.injEq, Prod.mk.injEq] at h
    obtain ⟨rfl, rfl⟩ := h
    exact (codec_Number.bad a0 (by omega) w).mono (by rintro e w' ⟨rfl, rfl⟩; exact ⟨rfl, Below.refl _ _⟩)
end Go.Proofs.Ytkgcaheddhfpgaa.P
-- Written by a program of this session (xprint.py) over the kit's print.py.
namespace Go.Proofs.Ytkgcaheddhfpgaa.P
open Go.RowKit Go.Proofs.YtkgcaheddhfpgaaW.PrintWords Go.Proofs.YtkgcaheddhfpgaaW.PrintLast Go.Proofs.YtkgcaheddhfpgaaW.PrintMore
attribute [local go_sem] max2_int min2_int max_two min_two max_three min_three max_four min_four   -- for this text's walks alone
set_option linter.unusedVariables false
set_option linter.unusedSimpArgs false

/-! ### codec_Text: function 49 -/
def codec_Text.f (a0 : ByteArray) : Option (ByteArray × Int) := if (a0.size : Int) > 4000 then (some ((⟨#[]⟩ : ByteArray), 2)) else ((codec_Number.f (a0.size : Int)).bind fun bt119 => (if bt119.1.size + a0.size ≤ 9223372036854775807 then (some (bt119.1 ++ a0, bt119.2)) else (none)))
set_option maxHeartbeats 8000000 in
set_option maxRecDepth 100000 in
theorem codec_Text.calls (a0 : ByteArray) (r1 : ByteArray) (r2 : Int) (w : World) (h : codec_Text.f a0 = some (r1, r2)) :
    Calls Try.prog 49 #[.string a0] w fun e w' => e = .returned (.tuple #[.string r1, .int .i64 r2]) ∧ Below w.heap.size w w' := by
  have HB := Aside0.mk (Below.refl w.heap.size w)
  have H : (if (a0.size : Int) > 4000 then (some ((⟨#[]⟩ : ByteArray), 2)) else ((codec_Number.f (a0.size : Int)).bind fun bt119 => (if bt119.1.size + a0.size ≤ 9223372036854775807 then (some (bt119.1 ++ a0, bt119.2)) else (none)))) = some (r1, r2) := h
  clear h
  by_cases c2 : (a0.size : Int) > 4000
  · rw [if_pos c2] at H
    have c2b0 : decide (4000 < (a0.size : Int)) = true := decide_eq_true c2
    have c2b1 : decide (4000 < a0.size) = true := decide_eq_true (by omega)
    clear c2
    simp only [Option.some.injEq, Prod.mk.injEq] at H
    obtain ⟨rfl, rfl⟩ := H
    go_enter Try.func49, Try.ntmps49
    go_wp2
    go_ret2
    exact ⟨by first | rfl | (simp [errW_none, errW_some] <;> rfl) | (simp [*, errW_none, errW_some] <;> rfl), by repeat (first | (with_reducible first | exact HB.out | apply below_alloc | apply pw_below_drewN | apply below_drew1) | exact HB.out)⟩
  · rw [if_neg c2] at H
    have c2b0 : decide (4000 < (a0.size : Int)) = false := decide_eq_false c2
    have c2b1 : decide (4000 < a0.size) = false := decide_eq_false (by omega)
    clear c2
    replace H := Option.bind_eq_some_iff.mp H
    obtain ⟨⟨t119, t120⟩, A30, H⟩ := H
    replace H : (if t119.size + a0.size ≤ 9223372036854775807 then (some (t119 ++ a0, t120)) else (none)) = some (r1, r2) := H
    have A3 := Aside0.mk A30
    clear A30
    by_cases c4 : t119.size + a0.size ≤ 9223372036854775807
    · rw [if_pos c4] at H
      have c4b0 := eq_true c4
      have c4b1 : decide (t119.size + a0.size ≤ 9223372036854775807) = true := decide_eq_true c4
      try have c4b2 : (9223372036854775807 < t119.size + a0.size) = False := eq_false (Nat.not_lt.2 c4)
      simp only [Option.some.injEq, Prod.mk.injEq] at H
      obtain ⟨rfl, rfl⟩ := H
      go_enter Try.func49, Try.ntmps49
      go_wp2_with (first | ((with_reducible refine gate_callee (f := 30) rfl ?_); refine goesL_ (some 12) rfl rfl Try.func30 (by kernel_rfl) rfl #[.int .i64 (a0.size : Int)] rfl (by (try simp only [List.map_toArray, List.map_cons, List.map_nil]); first | done | rfl | (simp only [List.length_drop, List.length_take]; rfl)) ?_; (with_reducible refine (codec_Number.calls (a0.size : Int) t119 t120 _ A3.out).mono ?_); rintro e w5 ⟨rfl, hb⟩; refine ⟨_, rfl, ?_⟩; have n0_ := Aside0.mk (below_step (by repeat (first | (with_reducible first | exact HB.out | apply below_alloc | apply pw_below_drewN | apply below_drew1) | exact HB.out)) hb); clear HB; have HB := n0_; clear n0_; (try clear hb); (try clear hb2); (try clear hk); (try clear hi)))
      go_ret2
      exact ⟨by first | rfl | (simp [errW_none, errW_some] <;> rfl) | (simp [*, errW_none, errW_some] <;> rfl), by repeat (first | (with_reducible first | exact HB.out | apply below_alloc | apply pw_below_drewN | apply below_drew1) | exact HB.out)⟩
    · rw [if_neg c4] at H
      exact absurd H (by simp)

end Go.Proofs.Ytkgcaheddhfpgaa.P
-- Written by a program of this session (xprint.py) over the kit's print.py.
namespace Go.Proofs.Ytkgcaheddhfpgaa.P
open Go.RowKit Go.Proofs.YtkgcaheddhfpgaaW.PrintWords Go.Proofs.YtkgcaheddhfpgaaW.PrintLast Go.Proofs.YtkgcaheddhfpgaaW.PrintMore
attribute [local go_sem] max2_int min2_int max_two min_two max_three min_three max_four min_four   -- for this text's walks alone
set_option linter.unusedVariables false
set_option linter.unusedSimpArgs false

/-! ### codec_GetText: function 69 -/
def codec_GetText.f (a0 : ByteArray) : Option (ByteArray × ByteArray × Bool) := (codec_GetNumber.f a0).bind fun bt127 => (if bt127.2.2 = true then (if bt127.1 > 4000 then (some ((⟨#[]⟩ : ByteArray), (⟨#[]⟩ : ByteArray), false)) else (if bt127.1 > (bt127.2.1.size : Int) then (some ((⟨#[]⟩ : ByteArray), (⟨#[]⟩ : ByteArray), false)) else (if 0 ≤ bt127.1 then (if bt127.1 ≤ (bt127.2.1.size : Int) then (some (bt127.2.1.extract 0 (bt127.1 : Int).toNat, bt127.2.1.extract (bt127.1 : Int).toNat bt127.2.1.size, true)) else (none)) else (none)))) else (some ((⟨#[]⟩ : ByteArray), (⟨#[]⟩ : ByteArray), false)))
set_option maxHeartbeats 8000000 in
set_option maxRecDepth 100000 in
theorem codec_GetText.calls (a0 : ByteArray) (r1 : ByteArray) (r2 : ByteArray) (r3 : Bool) (w : World) (h : codec_GetText.f a0 = some (r1, r2, r3)) :
    Calls Try.prog 69 #[.string a0] w fun e w' => e = .returned (.tuple #[.string r1, .string r2, .bool r3]) ∧ Drawn0 w w' := by
  have H : ((codec_GetNumber.f a0).bind fun bt127 => (if bt127.2.2 = true then (if bt127.1 > 4000 then (some ((⟨#[]⟩ : ByteArray), (⟨#[]⟩ : ByteArray), false)) else (if bt127.1 > (bt127.2.1.size : Int) then (some ((⟨#[]⟩ : ByteArray), (⟨#[]⟩ : ByteArray), false)) else (if 0 ≤ bt127.1 then (if bt127.1 ≤ (bt127.2.1.size : Int) then (some (bt127.2.1.extract 0 (bt127.1 : Int).toNat, bt127.2.1.extract (bt127.1 : Int).toNat bt127.2.1.size, true)) else (none)) else (none)))) else (some ((⟨#[]⟩ : ByteArray), (⟨#[]⟩ : ByteArray), false)))) = some (r1, r2, r3) := h
  clear h
  replace H := Option.bind_eq_some_iff.mp H
  obtain ⟨⟨t127, t128, t129⟩, A20, H⟩ := H
  replace H : (if t129 = true then (if t127 > 4000 then (some ((⟨#[]⟩ : ByteArray), (⟨#[]⟩ : ByteArray), false)) else (if t127 > (t128.size : Int) then (some ((⟨#[]⟩ : ByteArray), (⟨#[]⟩ : ByteArray), false)) else (if 0 ≤ t127 then (if t127 ≤ (t128.size : Int) then (some (t128.extract 0 (t127 : Int).toNat, t128.extract (t127 : Int).toNat t128.size, true)) else (none)) else (none)))) else (some ((⟨#[]⟩ : ByteArray), (⟨#[]⟩ : ByteArray), false))) = some (r1, r2, r3) := H
  have A2 := Aside0.mk A20
  clear A20
  by_cases c3 : t129 = true
  · subst c3
    have H1 : (if t127 > 4000 then (some ((⟨#[]⟩ : ByteArray), (⟨#[]⟩ : ByteArray), false)) else (if t127 > (t128.size : Int) then (some ((⟨#[]⟩ : ByteArray), (⟨#[]⟩ : ByteArray), false)) else (if 0 ≤ t127 then (if t127 ≤ (t128.size : Int) then (some (t128.extract 0 (t127 : Int).toNat, t128.extract (t127 : Int).toNat t128.size, true)) else (none)) else (none)))) = some (r1, r2, r3) := by rw [if_pos rfl] at H; exact H
    clear H
    have H := H1
    clear H1
    by_cases c4 : t127 > 4000
    · rw [if_pos c4] at H
      have c4b0 : decide (4000 < t127) = true := decide_eq_true c4
      clear c4
      simp only [Option.some.injEq, Prod.mk.injEq] at H
      obtain ⟨rfl, rfl, rfl⟩ := H
      go_enter Try.func69, Try.ntmps69
      go_wp2_with (first | (go_at_call 61; (with_reducible refine (codec_GetNumber.calls a0 t127 t128 true _ A2.out).mono ?_); rintro e w' ⟨rfl, ⟨nd, rfl⟩⟩; (try first | exact ⟨rfl, _, World.drewN_drewN _ _ _⟩ | exact ⟨rfl, _, Eq.trans (World.drewN_drewN _ _ _) (congrArg (World.drewN _) (Nat.add_assoc _ _ _))⟩)))
      repeat (go_quiet (first | (go_at_call 61; (with_reducible refine (codec_GetNumber.calls a0 t127 t128 true _ A2.out).mono ?_); rintro e w' ⟨rfl, ⟨nd, rfl⟩⟩; (try first | exact ⟨rfl, _, World.drewN_drewN _ _ _⟩ | exact ⟨rfl, _, Eq.trans (World.drewN_drewN _ _ _) (congrArg (World.drewN _) (Nat.add_assoc _ _ _))⟩))); try go_wp2_with (first | (go_at_call 61; (with_reducible refine (codec_GetNumber.calls a0 t127 t128 true _ A2.out).mono ?_); rintro e w' ⟨rfl, ⟨nd, rfl⟩⟩; (try first | exact ⟨rfl, _, World.drewN_drewN _ _ _⟩ | exact ⟨rfl, _, Eq.trans (World.drewN_drewN _ _ _) (congrArg (World.drewN _) (Nat.add_assoc _ _ _))⟩))))
      go_ret3
      exact ⟨by first | rfl | (simp; done) | (simp [*]; done), by repeat (first | exact Drawn0.refl _ | apply Drawn0.step)⟩
    · rw [if_neg c4] at H
      have c4b0 : decide (4000 < t127) = false := decide_eq_false c4
      clear c4
      by_cases c5 : t127 > (t128.size : Int)
      · rw [if_pos c5] at H
        have c5b0 : decide ((t128.size : Int) < t127) = true := decide_eq_true c5
        clear c5
        simp only [Option.some.injEq, Prod.mk.injEq] at H
        obtain ⟨rfl, rfl, rfl⟩ := H
        go_enter Try.func69, Try.ntmps69
        go_wp2_with (first | (go_at_call 61; (with_reducible refine (codec_GetNumber.calls a0 t127 t128 true _ A2.out).mono ?_); rintro e w' ⟨rfl, ⟨nd, rfl⟩⟩; (try first | exact ⟨rfl, _, World.drewN_drewN _ _ _⟩ | exact ⟨rfl, _, Eq.trans (World.drewN_drewN _ _ _) (congrArg (World.drewN _) (Nat.add_assoc _ _ _))⟩)))
        repeat (go_quiet (first | (go_at_call 61; (with_reducible refine (codec_GetNumber.calls a0 t127 t128 true _ A2.out).mono ?_); rintro e w' ⟨rfl, ⟨nd, rfl⟩⟩; (try first | exact ⟨rfl, _, World.drewN_drewN _ _ _⟩ | exact ⟨rfl, _, Eq.trans (World.drewN_drewN _ _ _) (congrArg (World.drewN _) (Nat.add_assoc _ _ _))⟩))); try go_wp2_with (first | (go_at_call 61; (with_reducible refine (codec_GetNumber.calls a0 t127 t128 true _ A2.out).mono ?_); rintro e w' ⟨rfl, ⟨nd, rfl⟩⟩; (try first | exact ⟨rfl, _, World.drewN_drewN _ _ _⟩ | exact ⟨rfl, _, Eq.trans (World.drewN_drewN _ _ _) (congrArg (World.drewN _) (Nat.add_assoc _ _ _))⟩))))
        go_ret3
        exact ⟨by first | rfl | (simp; done) | (simp [*]; done), by repeat (first | exact Drawn0.refl _ | apply Drawn0.step)⟩
      · rw [if_neg c5] at H
        have c5b0 : decide ((t128.size : Int) < t127) = false := decide_eq_false c5
        clear c5
        by_cases c6 : 0 ≤ t127
        · rw [if_pos c6] at H
          have c6b0 := eq_true c6
          have c6b1 : decide (0 ≤ t127) = true := decide_eq_true c6
          clear c6
          by_cases c7 : t127 ≤ (t128.size : Int)
          · rw [if_pos c7] at H
            have c7b0 := eq_true c7
            have c7b1 : decide (t127 ≤ (t128.size : Int)) = true := decide_eq_true c7
            clear c7
            have c8b0 := eq_true (of_decide_eq_true (by first | (with_reducible assumption) | assumption) : 0 ≤ t127)
            have c9b0 := eq_true (of_decide_eq_true (by first | (with_reducible assumption) | assumption) : t127 ≤ (t128.size : Int))
            simp only [Option.some.injEq, Prod.mk.injEq] at H
            obtain ⟨rfl, rfl, rfl⟩ := H
            go_enter Try.func69, Try.ntmps69
            go_wp2_with (first | (go_at_call 61; (with_reducible refine (codec_GetNumber.calls a0 t127 t128 true _ A2.out).mono ?_); rintro e w' ⟨rfl, ⟨nd, rfl⟩⟩; (try first | exact ⟨rfl, _, World.drewN_drewN _ _ _⟩ | exact ⟨rfl, _, Eq.trans (World.drewN_drewN _ _ _) (congrArg (World.drewN _) (Nat.add_assoc _ _ _))⟩)))
            repeat (go_quiet (first | (go_at_call 61; (with_reducible refine (codec_GetNumber.calls a0 t127 t128 true _ A2.out).mono ?_); rintro e w' ⟨rfl, ⟨nd, rfl⟩⟩; (try first | exact ⟨rfl, _, World.drewN_drewN _ _ _⟩ | exact ⟨rfl, _, Eq.trans (World.drewN_drewN _ _ _) (congrArg (World.drewN _) (Nat.add_assoc _ _ _))⟩))); try go_wp2_with (first | (go_at_call 61; (with_reducible refine (codec_GetNumber.calls a0 t127 t128 true _ A2.out).mono ?_); rintro e w' ⟨rfl, ⟨nd, rfl⟩⟩; (try first | exact ⟨rfl, _, World.drewN_drewN _ _ _⟩ | exact ⟨rfl, _, Eq.trans (World.drewN_drewN _ _ _) (congrArg (World.drewN _) (Nat.add_assoc _ _ _))⟩))))
            go_ret3
            exact ⟨by first | rfl | (simp; done) | (simp [*]; done), by repeat (first | exact Drawn0.refl _ | apply Drawn0.step)⟩
          · rw [if_neg c7] at H
            exact absurd H (by simp)
        · rw [if_neg c6] at H
          exact absurd H (by simp)
  · replace c3 := Bool.eq_false_iff.mpr c3
    subst c3
    have H1 : (some ((⟨#[]⟩ : ByteArray), (⟨#[]⟩ : ByteArray), false)) = some (r1, r2, r3) := by rw [if_neg (show ¬ (false = true) by decide)] at H; exact H
    clear H
    have H := H1
    clear H1
    simp only [Option.some.injEq, Prod.mk.injEq] at H
    obtain ⟨rfl, rfl, rfl⟩ := H
    go_enter Try.func69, Try.ntmps69
    go_wp2_with (first | (go_at_call 61; (with_reducible refine (codec_GetNumber.calls a0 t127 t128 false _ A2.out).mono ?_); rintro e w' ⟨rfl, ⟨nd, rfl⟩⟩; (try first | exact ⟨rfl, _, World.drewN_drewN _ _ _⟩ | exact ⟨rfl, _, Eq.trans (World.drewN_drewN _ _ _) (congrArg (World.drewN _) (Nat.add_assoc _ _ _))⟩)))
    repeat (go_quiet (first | (go_at_call 61; (with_reducible refine (codec_GetNumber.calls a0 t127 t128 false _ A2.out).mono ?_); rintro e w' ⟨rfl, ⟨nd, rfl⟩⟩; (try first | exact ⟨rfl, _, World.drewN_drewN _ _ _⟩ | exact ⟨rfl, _, Eq.trans (World.drewN_drewN _ _ _) (congrArg (World.drewN _) (Nat.add_assoc _ _ _))⟩))); try go_wp2_with (first | (go_at_call 61; (with_reducible refine (codec_GetNumber.calls a0 t127 t128 false _ A2.out).mono ?_); rintro e w' ⟨rfl, ⟨nd, rfl⟩⟩; (try first | exact ⟨rfl, _, World.drewN_drewN _ _ _⟩ | exact ⟨rfl, _, Eq.trans (World.drewN_drewN _ _ _) (congrArg (World.drewN _) (Nat.add_assoc _ _ _))⟩))))
    go_ret3
    exact ⟨by first | rfl | (simp; done) | (simp [*]; done), by repeat (first | exact Drawn0.refl _ | apply Drawn0.step)⟩

end Go.Proofs.Ytkgcaheddhfpgaa.P
/-
  Words that frames need.
-/
namespace Go.Proofs.Ytkgcaheddhfpgaa.B
open Go.RowKit Go.Proofs.CodecPlain Go.Proofs.YtkgcaheddhfpgaaW.PrintWords Go.Proofs.YtkgcaheddhfpgaaW.PrintLast Go.Proofs.Ytkgcaheddhfpgaa.P

theorem toList_inj {a b : ByteArray} (h : a.toList = b.toList) : a = b := by
  rw [ByteArray.toList_eq, ByteArray.toList_eq] at h; exact ba_ext h

theorem wrap_id {x : Int} (h0 : -9223372036854775808 ≤ x) (h1 : x ≤ 9223372036854775807) : wrap64 x = x := by unfold wrap64; omega

theorem strOfNums_size (l : List Int) : (strOfNums l).size = l.length := by simp [strOfNums, ByteArray.size]

theorem strOfNums_list (l : List Int) : (strOfNums l).data.toList = l.map u8 := by simp [strOfNums, u8]

theorem text_ok (s : ByteArray) (h : s.size ≤ 4000) : codec_Text.f s = some (textStr s, 0) := by
  have hn := numStr_size (s.size : Int)
  unfold codec_Text.f codec_Number.f
  rw [if_neg (by omega), if_pos (by omega)]
  simp only [Option.bind_some]
  rw [if_pos (by omega)]
  rfl

theorem text_no (s : ByteArray) (h : 4000 < s.size) : codec_Text.f s = some (⟨#[]⟩, 2) := by
  unfold codec_Text.f
  rw [if_pos (by omega)]

theorem text_f (s : ByteArray) : codec_Text.f s = some (if s.size ≤ 4000 then (textStr s, 0) else (⟨#[]⟩, 2)) := by
  by_cases h : s.size ≤ 4000
  · rw [text_ok s h, if_pos h]
  · rw [text_no s (by omega), if_neg h]

theorem bt_list (s : ByteArray) (i : Nat) (h : i < s.data.toList.length) : bt s (i : Int) = (s.data.toList[i].toNat : Int) := by
  have h' : i < s.size := by rw [len_list] at h; exact h
  unfold bt
  rw [dif_pos (by simpa using h')]
  rfl

theorem wrap_bt (s : ByteArray) (i : Int) : wrap64 (bt s i) = bt s i := by have := bt_range s i; exact wrap_id (by omega) (by omega)

/-- Whether a number's own text stands at the begin. -/
theorem getText_f (s : ByteArray) : codec_GetText.f s = some (getText s) := by
  unfold codec_GetText.f codec_GetNumber.f getText
  simp only [Option.bind_some]
  have := getNum_bd s
  by_cases h1 : (getNum s).2.2 = true
  · rw [if_pos h1]
    by_cases h2 : (getNum s).1 > 4000
    · rw [if_pos h2, if_neg (by omega)]
    · rw [if_neg h2]
      by_cases h3 : (getNum s).1 > ((getNum s).2.1.size : Int)
      · rw [if_pos h3, if_neg (by omega)]
      · rw [if_neg h3, if_pos (by omega), if_pos (by omega), if_pos ⟨h1, by omega, by omega⟩]
  · rw [if_neg h1, if_neg (by rintro ⟨h, _⟩; exact h1 h)]
end Go.Proofs.Ytkgcaheddhfpgaa.B
/-
  strings.Builder's copyCheck and WriteString, by hand, at a builder that the call has made itself.
-/
namespace Go.Proofs.Ytkgcaheddhfpgaa.P
open Go.RowKit Go.Shelf Go.Proofs

theorem bld_size : (Try.prog.info? 121).map (fun i => i.size) = some 2 := by kernel_rfl
theorem bld_lies : liesAt Try.prog Try.prog.depth 121 (2 / Try.prog.cellsOf 121) 0 121 1 = true := by kernel_rfl
theorem bld_byte : (Try.prog.info? 5).map (fun i => (i.zero, i.size, i.bytes)) = some (some (.int .u8 0), 1, 1) := by kernel_rfl

set_option maxHeartbeats 1000000 in
set_option maxRecDepth 100000 in
theorem Builder_copyCheck_used (b : Nat) (w : World) (h0 : w.cell? ⟨b, 0, none⟩ = some (.pointer (some ⟨b, 0, none⟩))) :
    Calls Try.prog 75 #[.pointer (some ⟨b, 0, none⟩)] w fun e w' => e = .returned (.tuple #[]) ∧ w' = w := by
  obtain ⟨j, hj, _⟩ := Option.map_eq_some_iff.1 bld_size
  go_enter Try.func75, Try.ntmps75
  go_wp2
  rw [Lib.run_neq_ptr_same w _ Try.underlying119 hj]
  go_wp2
  go_end0
  exact ⟨rfl, rfl⟩

set_option maxHeartbeats 1000000 in
set_option maxRecDepth 100000 in
theorem Builder_copyCheck_fresh (b : Nat) (w : World) (h0 : w.cell? ⟨b, 0, none⟩ = some (.pointer none)) (hsh : w.shape? b = some (121, 2)) (hfz : w.frozen? ⟨b, 0, none⟩ = false) :
    Calls Try.prog 75 #[.pointer (some ⟨b, 0, none⟩)] w fun e w' => e = .returned (.tuple #[]) ∧ w' = w.setCell ⟨b, 0, none⟩ (.pointer (some ⟨b, 0, none⟩)) := by
  obtain ⟨j, hj, hjs⟩ := Option.map_eq_some_iff.1 bld_size
  go_enter Try.func75, Try.ntmps75
  go_wp2
  rw [Lib.run_to_unsafe w ⟨b, 0, none⟩ Try.underlying119 Try.underlying133 hj (by rw [hjs]; decide) hsh (Nat.zero_lt_succ 1)]
  simp only [Result.andThen]
  rw [Oper.upon_value]
  go_wp2
  rw [run_callFunc_extern Try.func77 (by kernel_rfl) (by kernel_rfl) (by kernel_rfl) (e := Extern.AbiNoEscape.same) (by kernel_rfl)]
  rw [Lib.run_noEscape]
  simp only [Result.andThen]
  rw [Oper.upon_value]
  go_wp2
  rw [Lib.run_from_unsafe w ⟨b, 0, none⟩ Try.underlying133 Try.underlying119 hj hsh bld_lies]
  simp only [Result.andThen]
  rw [Oper.upon_value]
  go_wp2
  go_end0
  exact ⟨rfl, rfl⟩

theorem Builder_copyCheck (B b : Nat) (bs : List Value) (w : World) (h : Lib.IsBuilder 121 5 B b bs w) :
    Calls Try.prog 75 #[.pointer (some ⟨b, 0, none⟩)] w fun e w' => e = .returned (.tuple #[]) ∧ (Lib.BuilderAt 121 5 B b (.pointer (some ⟨b, 0, none⟩)) bs w' ∧ Below B w w') := by
  rcases h with h | h
  · refine (Builder_copyCheck_fresh b w h.cell0 h.shape h.frozen0).mono ?_
    rintro e w' ⟨rfl, rfl⟩
    exact ⟨rfl, h.used _, (Below.refl B w).setCell (p := ⟨b, 0, none⟩) h.1 _⟩
  · refine (Builder_copyCheck_used b w h.cell0).mono ?_
    rintro e w' ⟨rfl, rfl⟩
    exact ⟨rfl, h, Below.refl B _⟩

set_option maxHeartbeats 2000000 in
set_option maxRecDepth 100000 in
theorem Builder_WriteString (B b : Nat) (bs : List Value) (s : ByteArray) (w : World) (h : Lib.IsBuilder 121 5 B b bs w) (hlen : bs.length + s.size ≤ 140737488355328) (hBw : B ≤ w.heap.size) :
    Calls Try.prog 71 #[.pointer (some ⟨b, 0, none⟩), .string s] w fun e w' => e = .returned (.tuple #[.int .i64 s.size, .nilIface]) ∧ (Lib.BuilderAt 121 5 B b (.pointer (some ⟨b, 0, none⟩)) (bs ++ Lib.strCells s) w' ∧ Below B w w') := by
  obtain ⟨i0, hi, hz0, hz1, hz2⟩ := info_parts bld_byte
  go_enter Try.func71, Try.ntmps71
  go_wp2_with (go_at_call 75; refine (Builder_copyCheck B b bs _ h).mono ?_)
  rintro e w1 ⟨rfl, h1, hb1⟩
  obtain ⟨hB, v, hbk, hown, hne⟩ := h1
  have c0 : w1.cell? ⟨b, 0, none⟩ = some (.pointer (some ⟨b, 0, none⟩)) := by rw [Lib.cell_of_heap hbk]; rfl
  have c1 : w1.cell? ⟨b, 1, none⟩ = some v := by rw [Lib.cell_of_heap hbk]; rfl
  go_wp2_with (at_builtin; refine Lib.wpList_append_own_string _ rfl _ _ 92 9 rfl B 5 i0 Try.underlying92 Try.underlying9 hi hz0 hz1 hz2 _ _ _ rfl hown s rfl ?c3 ?c4 ?c5 ?_)
  case c3 => unfold maxLen; omega
  case c4 => omega
  case c5 => have := hb1.size; omega
  intro v' w2 hown' hgrow _
  have hlt : b < w1.heap.size := by
    rcases Nat.lt_or_ge b w1.heap.size with h' | h'
    · exact h'
    · simp [Array.getElem?_eq_none h'] at hbk
  have hb2 : w2.heap[b]? = some (.cells #[.pointer (some ⟨b, 0, none⟩), v] 121 (0, 0)) := by
    rw [hgrow.block b hlt (fun e => hne e.symm)]
    exact hbk
  have d0 : w2.cell? ⟨b, 0, none⟩ = some (.pointer (some ⟨b, 0, none⟩)) := by rw [Lib.cell_of_heap hb2]; rfl
  have d1 : w2.cell? ⟨b, 1, none⟩ = some v := by rw [Lib.cell_of_heap hb2]; rfl
  have f1 : w2.frozen? ⟨b, 1, none⟩ = false := Lib.frozen_of_heap hb2 1
  obtain ⟨ao, n', cap, rfl⟩ : ∃ ao n' cap, v' = .slice ao n' cap := by
    rcases hown'.2 with ⟨hv, _⟩ | ⟨g, cap, cur, hv, _⟩
    · exact ⟨_, _, _, hv⟩
    · exact ⟨_, _, _, hv⟩
  go_wp2
  go_ret2
  refine ⟨rfl, ?_, ?_⟩
  · exact Lib.BuilderAt.put (T := 121) (e := 5) hB hb2 (bs' := bs ++ Lib.strCells s) (by simpa [Lib.strCells_length] using hown') (by decide)
  · exact (hb1.grown hgrow (by have := hb1.size; omega) (fun k hk => (hown.lt k hk).1)).setCell (p := ⟨b, 1, none⟩) hB _
end Go.Proofs.Ytkgcaheddhfpgaa.P
/-
  crc.made, the table's step and crc.Sum, by hand.
-/
namespace Go.Proofs.Ytkgcaheddhfpgaa.P
open Go.RowKit Go.Shelf Go.Proofs.YtkgcaheddhfpgaaW.PrintWords Go.Proofs.YtkgcaheddhfpgaaW.PrintLast Go.Proofs.YtkgcaheddhfpgaaW.PrintMore

def crc1 (c : Int) : Int := if (bits BinOp.and IntKind.i64 c 1 == 1) = true then bits BinOp.xor IntKind.i64 (c / 2) 3988292384 else c / 2
def crcN : Nat → Int → Int
  | 0, c => c
  | n + 1, c => crc1 (crcN n c)
def crcT (i : Nat) : Int := crcN 8 (i : Int)

def zeros : Array Value := Array.replicate 256 (.int .i64 0)
theorem zeros_size : zeros.size = 256 := by simp [zeros]
theorem zero_tab (w : World) : Sem.run Try.prog (zeroValue 128) w = .ok (.agg zeros) w := by kernel_rfl
attribute [local go_sem] zero_tab

set_option maxHeartbeats 8000000 in
set_option maxRecDepth 100000 in
theorem crc_made_calls (w : World) : Calls Try.prog 63 #[] w fun e w' => ∃ cs, e = .returned (.pointer (some ⟨w.heap.size, 0, none⟩)) ∧ w'.heap[w.heap.size]? = some (.cells cs 128 (0, 0)) ∧ (∀ j : Nat, j < 256 → cs[j]? = some (.int .i64 (crcT j))) ∧ Below w.heap.size w w' := by
  go_enter Try.func63, Try.ntmps63
  go_wp2
  go_loopw [5] (fun i wr => ∃ (k : Nat) (cs : Array Value), k ≤ 256 ∧ i = .int .i64 k ∧ cs.size = 256 ∧ Aside0 (wr.heap[w.heap.size]? = some (.cells cs 128 (0, 0))) ∧ Aside0 (∀ j : Nat, j < k → cs[j]? = some (.int .i64 (crcT j))) ∧ Aside0 (Below w.heap.size w wr))
    (fun i _ => 256 - (intOf i).toNat)
  case atStart => exact ⟨0, zeros, by omega, rfl, zeros_size, ⟨blk_new _ _⟩, ⟨fun j hj => by omega⟩, ⟨(Below.refl _ _).alloc (Nat.le_refl _) _⟩⟩
  case round =>
    obtain ⟨k, cs, hk, rfl, hcs, HW, HT, HB⟩ := hrel
    by_cases hlt : k < 256
    · go_wp2
      go_loopw [9, 3] (fun i c wr2 => ∃ n : Nat, n ≤ 8 ∧ i = .int .i64 n ∧ c = .int .i64 (crcN n (k : Int)) ∧ Aside0 (wr2 = wr))
        (fun i _ _ => 8 - (intOf i).toNat)
      case atStart => exact ⟨0, by omega, rfl, rfl, ⟨rfl⟩⟩
      case round =>
        obtain ⟨n, hn, rfl, rfl, HE⟩ := hrel
        obtain rfl := HE.out
        by_cases h8 : n < 8
        · have HS := Aside0.mk (show crcN (n + 1) (k : Int) = crc1 (crcN n (k : Int)) from rfl)
          generalize crcN n (k : Int) = c at *
          unfold crc1 at HS
          by_cases h1 : (bits BinOp.and IntKind.i64 c 1 == 1) = true
          · rw [if_pos h1] at HS
            go_wp2
            exact ⟨⟨n + 1, by omega, by go_num, by rw [HS.out], ⟨trivial⟩⟩, by simp [intOf]; omega⟩
          · rw [if_neg h1] at HS
            have h2 : (bits BinOp.and IntKind.i64 c 1 == 1) = false := by simpa using h1
            clear h1
            go_wp2
            exact ⟨⟨n + 1, by omega, by go_num, by rw [HS.out], ⟨trivial⟩⟩, by simp [intOf]; omega⟩
        · obtain rfl : n = 8 := by omega
          have c0 := blk_cell HW.out k
          rw [Array.getElem?_eq_getElem (by omega)] at c0
          have f0 := blk_frozen HW.out k
          have hset := Aside0.mk (blk_set HW.out k (.int .i64 (crcN 8 (k : Int))))
          have hb := Aside0.mk (HB.out.setCell (p := ⟨w.heap.size, k, none⟩) (Nat.le_refl _) (.int .i64 (crcN 8 (k : Int))))
          generalize cs[k] = old at c0
          go_wp2
          refine ⟨⟨k + 1, _, by omega, by go_num, by simpa using hcs, hset, ⟨fun j hj => ?_⟩, hb⟩, by simp [intOf]; omega⟩
          rw [Array.getElem?_setIfInBounds]
          by_cases e : k = j
          · subst e; rw [if_pos rfl, if_pos (by omega)]; rfl
          · rw [if_neg e]; exact HT.out j (by omega)
    · obtain rfl : k = 256 := by omega
      go_wp2
      go_ret
      exact ⟨cs, rfl, HW.out, HT.out, HB.out⟩

def stepI (c b : Int) : Int := bits BinOp.and IntKind.i64 (bits BinOp.xor IntKind.i64 c b) 255
def stepV (c b : Int) : Int := bits BinOp.xor IntKind.i64 (c / 256) (crcT (stepI c b).toNat)
theorem and255 (x : Int) : 0 ≤ bits BinOp.and IntKind.i64 x 255 ∧ bits BinOp.and IntKind.i64 x 255 < 256 := by
  have hn : (BitVec.ofInt 64 x &&& BitVec.ofInt 64 255).toNat ≤ 255 := by
    rw [BitVec.toNat_and]
    exact Nat.le_trans Nat.and_le_right (by decide)
  show 0 ≤ IntKind.wrap .i64 (((BitVec.ofInt 64 x &&& BitVec.ofInt 64 255).toNat : Nat) : Int) ∧ IntKind.wrap .i64 (((BitVec.ofInt 64 x &&& BitVec.ofInt 64 255).toNat : Nat) : Int) < 256
  generalize (BitVec.ofInt 64 x &&& BitVec.ofInt 64 255).toNat = n at *
  have : IntKind.wrap .i64 (n : Int) = n := by
    simp [IntKind.wrap, IntKind.signed, IntKind.bits]
    omega
  omega

set_option maxHeartbeats 4000000 in
set_option maxRecDepth 100000 in
theorem crc_tstep_calls (B : Nat) (cs : Array Value) (c : Int) (b : Nat) (hb : b < 256) (w : World) (hw : w.heap[B]? = some (.cells cs 128 (0, 0))) (ht : ∀ j : Nat, j < 256 → cs[j]? = some (.int .i64 (crcT j))) :
    Calls Try.prog 64 #[.pointer (some ⟨B, 0, none⟩), .int .i64 c, .int .u8 (b : Int)] w fun e w' => e = .returned (.int .i64 (stepV c b)) ∧ w' = w := by
  obtain ⟨h0, h1⟩ := and255 (bits BinOp.xor IntKind.i64 c b)
  have hc : w.cell? ⟨B, (bits BinOp.and IntKind.i64 (bits BinOp.xor IntKind.i64 c b) 255).toNat, none⟩ = some (.int .i64 (crcT (stepI c b).toNat)) := by
    rw [blk_cell hw]; exact ht _ (by omega)
  have hS := Aside0.mk (show stepV c b = bits BinOp.xor IntKind.i64 (c / 256) (crcT (stepI c b).toNat) from rfl)
  generalize crcT (stepI c b).toNat = v at *
  clear ht hw
  go_enter Try.func64, Try.ntmps64
  go_wp2
  go_ret
  exact ⟨by rw [hS.out]; rfl, rfl⟩

def sumC (l : List UInt8) (c : Int) : Int := l.foldl (fun c b => stepV c (b.toNat : Int)) c
/-- The sum of a text. -/
def sumV (s : ByteArray) : Int := bits BinOp.xor IntKind.i64 (sumC s.data.toList 4294967295) 4294967295
theorem sumC_snoc (l : List UInt8) (b : UInt8) (c : Int) : sumC (l ++ [b]) c = stepV (sumC l c) (b.toNat : Int) := by simp [sumC]
theorem sumC_take (s : ByteArray) (k : Nat) (h : k < s.size) (c : Int) : sumC (s.data.toList.take (k + 1)) c = stepV (sumC (s.data.toList.take k) c) (s[k].toNat : Int) := by
  have hl : k < s.data.toList.length := by simpa using h
  rw [List.take_succ_eq_append_getElem hl, sumC_snoc]
  rfl

set_option maxHeartbeats 4000000 in
set_option maxRecDepth 100000 in
theorem crc_Sum_yes (s : ByteArray) (hs : s.size ≤ 1000000000) (w : World) : Calls Try.prog 50 #[.string s] w fun e w' => e = .returned (.int .i64 (sumV s)) ∧ Below w.heap.size w w' := by
  have HM := Aside0.mk (crc_made_calls w)
  have eg : ∀ args w, (callFunc 64 args).run Try.prog w = .ok (.enter 64 args) w := enters_of Try.func64 (by kernel_rfl) rfl
  go_enter Try.func50, Try.ntmps50
  go_wp2_with (first | (go_at_call 63; refine HM.out.mono ?_; rintro e w3 ⟨cs, rfl, hw3, ht3, hb3⟩; have HW3 := Aside0.mk hw3; have HT3 := Aside0.mk ht3; have HB3 := Aside0.mk hb3; clear hw3 ht3 hb3))
  go_loopw [4, 5, 10] (fun c _ i wr => ∃ k : Nat, k ≤ s.size ∧ i = .int .i64 k ∧ c = .int .i64 (sumC (s.data.toList.take k) 4294967295) ∧ Aside0 (wr = w3)) (fun _ _ i _ => s.size - (intOf i).toNat)
  case atStart => exact ⟨0, Nat.zero_le _, rfl, rfl, ⟨rfl⟩⟩
  case round =>
    obtain ⟨k, hk, rfl, rfl, HE⟩ := hrel
    obtain rfl := HE.out
    by_cases hlt : k < s.size
    · have hn := Aside0.mk (sumC_take s k hlt 4294967295)
      have hb := s[k].toNat_lt
      have HC := Aside0.mk (crc_tstep_calls w.heap.size cs (sumC (s.data.toList.take k) 4294967295) s[k].toNat hb _ HW3.out HT3.out)
      generalize sumC (s.data.toList.take k) 4294967295 = c at *
      go_wp2_with (go_at_fn 64; refine HC.out.mono ?_; rintro e w4 ⟨rfl, rfl⟩)
      go_roundw
      case rel => exact ⟨k + 1, by omega, by go_num, by rw [hn.out], ⟨trivial⟩⟩
      case measure => simp [intOf]; omega
    · obtain rfl : k = s.size := by omega
      have hw := Aside0.mk (show sumC (s.data.toList.take s.size) 4294967295 = sumC s.data.toList 4294967295 by rw [List.take_of_length_le (by simp)])
      go_wp2
      go_ret
      exact ⟨by rw [hw.out]; rfl, HB3.out⟩
def crc_Sum.f (a0 : ByteArray) : Option Int := if a0.size ≤ 1000000000 then some (sumV a0) else none
theorem crc_Sum.calls (a0 : ByteArray) (r : Int) (w : World) (h : crc_Sum.f a0 = some r) : Calls Try.prog 50 #[.string a0] w fun e w' => e = .returned (.int .i64 r) ∧ Below w.heap.size w w' := by
  unfold crc_Sum.f at h
  by_cases hs : a0.size ≤ 1000000000
  · rw [if_pos hs] at h
    obtain rfl := Option.some.inj h
    exact crc_Sum_yes a0 hs w
  · rw [if_neg hs] at h; cases h
end Go.Proofs.Ytkgcaheddhfpgaa.P
-- Written by a program of this session (xprint.py) over the kit's print.py.
namespace Go.Proofs.Ytkgcaheddhfpgaa.P
open Go.RowKit Go.Proofs.YtkgcaheddhfpgaaW.PrintWords Go.Proofs.YtkgcaheddhfpgaaW.PrintLast Go.Proofs.YtkgcaheddhfpgaaW.PrintMore
attribute [local go_sem] max2_int min2_int max_two min_two max_three min_three max_four min_four   -- for this text's walks alone
set_option linter.unusedVariables false
set_option linter.unusedSimpArgs false

/-! ### crc_Put: function 31 -/
def crc_Put.f (a0 : ByteArray) : Option (ByteArray × Int) := (codec_Text.f a0).bind fun bt121 => (if bt121.2 = 0 then ((crc_Sum.f a0).bind fun t123 => ((some (([(t123 / 16777216) % 256, (t123 / 65536) % 256, (t123 / 256) % 256, (t123) % 256] : List Int) : List Int)).bind fun y124 => (if (strOfNums y124).size + bt121.1.size ≤ 9223372036854775807 then (some ((strOfNums y124) ++ bt121.1, 0)) else (none)))) else (some ((⟨#[]⟩ : ByteArray), bt121.2)))
set_option maxHeartbeats 8000000 in
set_option maxRecDepth 100000 in
theorem crc_Put.calls (a0 : ByteArray) (r1 : ByteArray) (r2 : Int) (w : World) (h : crc_Put.f a0 = some (r1, r2)) :
    Calls Try.prog 31 #[.string a0] w fun e w' => e = .returned (.tuple #[.string r1, .int .i64 r2]) ∧ Below w.heap.size w w' := by
  have HB := Aside0.mk (Below.refl w.heap.size w)
  have H : ((codec_Text.f a0).bind fun bt121 => (if bt121.2 = 0 then ((crc_Sum.f a0).bind fun t123 => ((some (([(t123 / 16777216) % 256, (t123 / 65536) % 256, (t123 / 256) % 256, (t123) % 256] : List Int) : List Int)).bind fun y124 => (if (strOfNums y124).size + bt121.1.size ≤ 9223372036854775807 then (some ((strOfNums y124) ++ bt121.1, 0)) else (none)))) else (some ((⟨#[]⟩ : ByteArray), bt121.2)))) = some (r1, r2) := h
  clear h
  replace H := Option.bind_eq_some_iff.mp H
  obtain ⟨⟨t121, t122⟩, A20, H⟩ := H
  replace H : (if t122 = 0 then ((crc_Sum.f a0).bind fun t123 => ((some (([(t123 / 16777216) % 256, (t123 / 65536) % 256, (t123 / 256) % 256, (t123) % 256] : List Int) : List Int)).bind fun y124 => (if (strOfNums y124).size + t121.size ≤ 9223372036854775807 then (some ((strOfNums y124) ++ t121, 0)) else (none)))) else (some ((⟨#[]⟩ : ByteArray), t122))) = some (r1, r2) := H
  have A2 := Aside0.mk A20
  clear A20
  by_cases c3 : t122 = 0
  · rw [if_pos c3] at H
    have c3b0 : (t122 == 0) = true := beq_iff_eq.mpr c3
    have c3b1 : (t122 != 0) = false := bne_eq_false_iff_eq.mpr c3
    clear c3
    replace H := Option.bind_eq_some_iff.mp H
    obtain ⟨t123, A40, H⟩ := H
    replace H : ((some (([(t123 / 16777216) % 256, (t123 / 65536) % 256, (t123 / 256) % 256, (t123) % 256] : List Int) : List Int)).bind fun y124 => (if (strOfNums y124).size + t121.size ≤ 9223372036854775807 then (some ((strOfNums y124) ++ t121, 0)) else (none))) = some (r1, r2) := H
    have A4 := Aside0.mk A40
    clear A40
    obtain ⟨y124, hy124⟩ : ∃ y_ : List Int, y_ = (([(t123 / 16777216) % 256, (t123 / 65536) % 256, (t123 / 256) % 256, (t123) % 256] : List Int)) := ⟨_, rfl⟩
    replace H : (if (strOfNums y124).size + t121.size ≤ 9223372036854775807 then (some ((strOfNums y124) ++ t121, 0)) else (none)) = some (r1, r2) := by first | (rw [hy124]; with_reducible exact H) | (have H2_ := (Option.bind_some _ _).symm.trans H; rw [hy124]; with_reducible exact H2_) | (have H2_ := (Option.bind_some _ _).symm.trans H; with_reducible exact H2_) | with_reducible exact H | (rw [hy124]; exact H) | exact H
    have Ny124 := Aside0.mk hy124
    clear hy124
    by_cases c5 : (strOfNums y124).size + t121.size ≤ 9223372036854775807
    · rw [if_pos c5] at H
      have c5b0 := eq_true c5
      have c5b1 : decide ((strOfNums y124).size + t121.size ≤ 9223372036854775807) = true := decide_eq_true c5
      try have c5b2 : (9223372036854775807 < (strOfNums y124).size + t121.size) = False := eq_false (Nat.not_lt.2 c5)
      simp only [Option.some.injEq, Prod.mk.injEq] at H
      obtain ⟨rfl, rfl⟩ := H
      go_enter Try.func31, Try.ntmps31
      go_wp2_with (first | ((with_reducible refine gate_callee (f := 49) rfl ?_); refine goesL_ (some 9) rfl rfl Try.func49 (by kernel_rfl) rfl #[.string a0] rfl (by (try simp only [List.map_toArray, List.map_cons, List.map_nil]); first | done | rfl | (simp only [List.length_drop, List.length_take]; rfl)) ?_; (with_reducible refine (codec_Text.calls a0 t121 t122 _ A2.out).mono ?_); rintro e w6 ⟨rfl, hb⟩; refine ⟨_, rfl, ?_⟩; have n0_ := Aside0.mk (below_step (by repeat (first | (with_reducible first | exact HB.out | apply below_alloc | apply pw_below_drewN | apply below_drew1) | exact HB.out)) hb); clear HB; have HB := n0_; clear n0_; (try clear hb); (try clear hb2); (try clear hk); (try clear hi)) | ((with_reducible refine gate_callee (f := 50) rfl ?_); refine goesL_ (some 16) rfl rfl Try.func50 (by kernel_rfl) rfl #[.string a0] rfl (by (try simp only [List.map_toArray, List.map_cons, List.map_nil]); first | done | rfl | (simp only [List.length_drop, List.length_take]; rfl)) ?_; (with_reducible refine (crc_Sum.calls a0 t123 _ A4.out).mono ?_); rintro e w7 ⟨rfl, hb⟩; refine ⟨_, rfl, ?_⟩; have n0_ := Aside0.mk (below_step (by repeat (first | (with_reducible first | exact HB.out | apply below_alloc | apply pw_below_drewN | apply below_drew1) | exact HB.out)) hb); clear HB; have HB := n0_; clear n0_; (try clear hb); (try clear hb2); (try clear hk); (try clear hi)) | ((with_reducible refine gate_dst (N := 28) rfl ?_); refine Kd.R_lit (Kd.int .u8) _ 5 ?hg (N := 28) ?hd (xs := ([(t123 / 16777216) % 256, (t123 / 65536) % 256, (t123 / 256) % 256, (t123) % 256] : List Int)) (inner := [.int .u8 ((t123 / 16777216) % 256), .int .u8 ((t123 / 65536) % 256), .int .u8 ((t123 / 256) % 256), .int .u8 ((t123) % 256)]) (ok := fun _ => True) (okp := fun _ => True) ?hr ?hp (fun _ hk => hk) trivial (Below.refl _ _) (Nat.le_refl _) (by simp) ?_; (case hd => rfl); (case hg => rfl); (case hr => first | (go_simp; done) | (go_simp; rfl)); (case hp => exact (Reps.one (show Kd.M (Kd.int .u8) _ _ _ ((t123 / 16777216) % 256) [.int .u8 ((t123 / 16777216) % 256)] from rfl) (Reps.one (show Kd.M (Kd.int .u8) _ _ _ ((t123 / 65536) % 256) [.int .u8 ((t123 / 65536) % 256)] from rfl) (Reps.one (show Kd.M (Kd.int .u8) _ _ _ ((t123 / 256) % 256) [.int .u8 ((t123 / 256) % 256)] from rfl) (Reps.one (show Kd.M (Kd.int .u8) _ _ _ ((t123) % 256) [.int .u8 ((t123) % 256)] from rfl) (Reps.none _ _)))))); intro v125 w8 ho9 hb hg_ hnew_; clear hg_ hnew_; (first | rw [← Ny124.out] at ho9 | (simp only [Int.reduceToNat] at ho9; rw [← Ny124.out] at ho9)); have n0_ := Aside0.mk (Kd.R_lower ho9 (below_size (by repeat (first | (with_reducible first | exact HB.out | apply below_alloc | apply pw_below_drewN | apply below_drew1) | exact HB.out)))); have n1_ := Aside0.mk (below_step (by repeat (first | (with_reducible first | exact HB.out | apply below_alloc | apply pw_below_drewN | apply below_drew1) | exact HB.out)) hb); clear HB; have HO126 := n0_; have HB := n1_; clear n0_ n1_; clear hb ho9; have hcv10 := own_string (P := Try.prog) Try.underlying92 Try.underlying5 Try.underlying9 (Kd.own_of_R HO126.out)))
      go_ret2
      exact ⟨by first | rfl | (simp [errW_none, errW_some] <;> rfl) | (simp [*, errW_none, errW_some] <;> rfl), by repeat (first | (with_reducible first | exact HB.out | apply below_alloc | apply pw_below_drewN | apply below_drew1) | exact HB.out)⟩
    · rw [if_neg c5] at H
      exact absurd H (by simp)
  · rw [if_neg c3] at H
    have c3b0 : (t122 == 0) = false := beq_eq_false_iff_ne.mpr c3
    have c3b1 : (t122 != 0) = true := bne_iff_ne.mpr c3
    simp only [Option.some.injEq, Prod.mk.injEq] at H
    obtain ⟨rfl, rfl⟩ := H
    go_enter Try.func31, Try.ntmps31
    go_wp2_with (first | ((with_reducible refine gate_callee (f := 49) rfl ?_); refine goesL_ (some 9) rfl rfl Try.func49 (by kernel_rfl) rfl #[.string a0] rfl (by (try simp only [List.map_toArray, List.map_cons, List.map_nil]); first | done | rfl | (simp only [List.length_drop, List.length_take]; rfl)) ?_; (with_reducible refine (codec_Text.calls a0 t121 t122 _ A2.out).mono ?_); rintro e w11 ⟨rfl, hb⟩; refine ⟨_, rfl, ?_⟩; have n0_ := Aside0.mk (below_step (by repeat (first | (with_reducible first | exact HB.out | apply below_alloc | apply pw_below_drewN | apply below_drew1) | exact HB.out)) hb); clear HB; have HB := n0_; clear n0_; (try clear hb); (try clear hb2); (try clear hk); (try clear hi)))
    go_ret2
    exact ⟨by first | rfl | (simp [errW_none, errW_some] <;> rfl) | (simp [*, errW_none, errW_some] <;> rfl), by repeat (first | (with_reducible first | exact HB.out | apply below_alloc | apply pw_below_drewN | apply below_drew1) | exact HB.out)⟩

end Go.Proofs.Ytkgcaheddhfpgaa.P
-- Written by a program of this session (xprint.py) over the kit's print.py.
namespace Go.Proofs.Ytkgcaheddhfpgaa.P
open Go.RowKit Go.Proofs.YtkgcaheddhfpgaaW.PrintWords Go.Proofs.YtkgcaheddhfpgaaW.PrintLast Go.Proofs.YtkgcaheddhfpgaaW.PrintMore
attribute [local go_sem] max2_int min2_int max_two min_two max_three min_three max_four min_four   -- for this text's walks alone
set_option linter.unusedVariables false
set_option linter.unusedSimpArgs false

/-! ### crc_Get: function 55 -/
def crc_Get.l0 : Nat → ByteArray → ByteArray → ByteArray → Int → Int → Option (ByteArray × ByteArray × Int)
  | 0, _, _, _, _, _ => none
  | k + 1, x0, x5, x6, x8, x22 => if x22 < 4 then (if 0 ≤ x22 then (if x22 < (x0.size : Int) then (crc_Get.l0 k x0 x5 x6 (Go.bits .or .i64 (wrap64 (x8 * 256)) (wrap64 (bt x0 x22))) (wrap64 (x22 + 1))) else (none)) else (none)) else ((crc_Sum.f x5).bind fun t133 => (if t133 = x8 then (some (x5, x6, 0)) else (some ((⟨#[]⟩ : ByteArray), (⟨#[]⟩ : ByteArray), 30))))
def crc_Get.f (k : Nat) (a0 : ByteArray) : Option (ByteArray × ByteArray × Int) := if (a0.size : Int) < 4 then (some ((⟨#[]⟩ : ByteArray), (⟨#[]⟩ : ByteArray), 30)) else (if 4 ≤ (a0.size : Int) then ((codec_GetText.f (a0.extract 4 a0.size)).bind fun bt130 => (if bt130.2.2 = true then (crc_Get.l0 k a0 bt130.1 bt130.2.1 0 0) else (some ((⟨#[]⟩ : ByteArray), (⟨#[]⟩ : ByteArray), 30)))) else (none))
set_option maxHeartbeats 8000000 in
set_option maxRecDepth 100000 in
theorem crc_Get.calls (k : Nat) (a0 : ByteArray) (r1 : ByteArray) (r2 : ByteArray) (r3 : Int) (w : World) (h : crc_Get.f k a0 = some (r1, r2, r3)) :
    Calls Try.prog 55 #[.string a0] w fun e w' => e = .returned (.tuple #[.string r1, .string r2, .int .i64 r3]) ∧ Below w.heap.size w w' := by
  have HB := Aside0.mk (Below.refl w.heap.size w)
  have H : (if (a0.size : Int) < 4 then (some ((⟨#[]⟩ : ByteArray), (⟨#[]⟩ : ByteArray), 30)) else (if 4 ≤ (a0.size : Int) then ((codec_GetText.f (a0.extract 4 a0.size)).bind fun bt130 => (if bt130.2.2 = true then (crc_Get.l0 k a0 bt130.1 bt130.2.1 0 0) else (some ((⟨#[]⟩ : ByteArray), (⟨#[]⟩ : ByteArray), 30)))) else (none))) = some (r1, r2, r3) := h
  clear h
  by_cases c2 : (a0.size : Int) < 4
  · rw [if_pos c2] at H
    have c2b0 : decide ((a0.size : Int) < 4) = true := decide_eq_true c2
    have c2b1 : decide (a0.size < 4) = true := decide_eq_true (by omega)
    clear c2
    simp only [Option.some.injEq, Prod.mk.injEq] at H
    obtain ⟨rfl, rfl, rfl⟩ := H
    go_enter Try.func55, Try.ntmps55
    go_wp2
    go_ret3
    exact ⟨by first | rfl | (simp [errW_none, errW_some] <;> rfl) | (simp [*, errW_none, errW_some] <;> rfl), by repeat (first | (with_reducible first | exact HB.out | apply below_alloc | apply pw_below_drewN | apply below_drew1) | exact HB.out)⟩
  · rw [if_neg c2] at H
    have c2b0 : decide ((a0.size : Int) < 4) = false := decide_eq_false c2
    have c2b1 : decide (a0.size < 4) = false := decide_eq_false (by omega)
    clear c2
    by_cases c3 : 4 ≤ (a0.size : Int)
    · rw [if_pos c3] at H
      have c3b0 := eq_true c3
      have c3b1 : decide (4 ≤ (a0.size : Int)) = true := decide_eq_true c3
      clear c3
      replace H := Option.bind_eq_some_iff.mp H
      obtain ⟨⟨t130, t131, t132⟩, A40, H⟩ := H
      replace H : (if t132 = true then (crc_Get.l0 k a0 t130 t131 0 0) else (some ((⟨#[]⟩ : ByteArray), (⟨#[]⟩ : ByteArray), 30))) = some (r1, r2, r3) := H
      have A4 := Aside0.mk A40
      clear A40
      by_cases c5 : t132 = true
      · subst c5
        have H1 : (crc_Get.l0 k a0 t130 t131 0 0) = some (r1, r2, r3) := by rw [if_pos rfl] at H; exact H
        clear H
        have H := H1
        clear H1
        have H' := Aside0.mk H
        clear H
        go_enter Try.func55, Try.ntmps55
        go_wp2_with (first | ((with_reducible refine gate_callee (f := 69) rfl ?_); refine goesL_ (some 16) rfl rfl Try.func69 (by kernel_rfl) rfl #[.string (a0.extract 4 a0.size)] rfl (by (try simp only [List.map_toArray, List.map_cons, List.map_nil]); first | done | rfl | (simp only [List.length_drop, List.length_take]; rfl)) ?_; (with_reducible refine (codec_GetText.calls (a0.extract 4 a0.size) t130 t131 true _ A4.out).mono ?_); rintro e w' ⟨rfl, ⟨nd, rfl⟩⟩; refine ⟨_, rfl, ?_⟩))
        go_loopg [8, 22] k (fun kq v8 v22 w' => ∃ (x8_1 : Int) (x22_1 : Int), v8 = .int .i64 x8_1 ∧ v22 = .int .i64 x22_1 ∧ Aside0 (crc_Get.l0 kq a0 t130 t131 x8_1 x22_1 = some (r1, r2, r3)) ∧ Aside0 (kq ≤ k) ∧ Aside0 (Below w.heap.size w w'))
        case atStart => exact ⟨(0), (0), (by first | rfl | (simp; done) | (simp [*]; done)), (by first | rfl | (simp; done) | (simp [*]; done)), H', ⟨Nat.le_refl _⟩, ⟨by repeat (first | (with_reducible first | exact HB.out | apply below_alloc | apply pw_below_drewN | apply below_drew1) | exact HB.out)⟩⟩
        case round =>
          clear H'
          try clear c2
          try clear c2b0
          try clear c2b1
          try clear p2
          try clear c3
          try clear c3b0
          try clear c3b1
          try clear c5
          obtain ⟨x8_1, x22_1, rfl, rfl, HA, HK1, HB⟩ := hrel
          cases gk with
          | zero => exact absurd HA.out (by simp [crc_Get.l0])
          | succ k1 =>
            have H := HA.out
            clear HA
            simp only [crc_Get.l0] at H
            by_cases c6 : x22_1 < 4
            · rw [if_pos c6] at H
              have c6b0 : decide (x22_1 < 4) = true := decide_eq_true c6
              clear c6
              by_cases c7 : 0 ≤ x22_1
              · rw [if_pos c7] at H
                have c7b0 : decide (0 ≤ x22_1) = true := decide_eq_true c7
                clear c7
                by_cases c8 : x22_1 < (a0.size : Int)
                · rw [if_pos c8] at H
                  have c8b0 : decide (x22_1 < (a0.size : Int)) = true := decide_eq_true c8
                  clear c8
                  have H' := Aside0.mk H
                  clear H
                  have p9 : 0 ≤ (x22_1 : Int) := of_decide_eq_true (by first | (with_reducible assumption) | assumption)
                  have q9 : x22_1 < (a0.size : Int) := of_decide_eq_true (by first | (with_reducible assumption) | assumption)
                  have hx9 := bt_at a0 x22_1
                  replace p9 := eq_true p9
                  replace q9 := eq_true q9
                  go_wp2
                  go_roundg k1
                  case measure => have := HK1.out; omega
                  case rel => exact ⟨(Go.bits .or .i64 (wrap64 (x8_1 * 256)) (wrap64 (bt a0 x22_1))), (wrap64 (x22_1 + 1)), (by first | rfl | (simp; done) | (simp [*]; done)), (by first | rfl | (simp; done) | (simp [*]; done)), H', ⟨by have := HK1.out; omega⟩, ⟨by repeat (first | (with_reducible first | exact HB.out | apply below_alloc | apply pw_below_drewN | apply below_drew1) | exact HB.out)⟩⟩
                · rw [if_neg c8] at H
                  exact absurd H (by simp)
              · rw [if_neg c7] at H
                exact absurd H (by simp)
            · rw [if_neg c6] at H
              have c6b0 : decide (x22_1 < 4) = false := decide_eq_false c6
              clear c6
              replace H := Option.bind_eq_some_iff.mp H
              obtain ⟨t133, A100, H⟩ := H
              replace H : (if t133 = x8_1 then (some (t130, t131, 0)) else (some ((⟨#[]⟩ : ByteArray), (⟨#[]⟩ : ByteArray), 30))) = some (r1, r2, r3) := H
              have A10 := Aside0.mk A100
              clear A100
              by_cases c11 : t133 = x8_1
              · rw [if_pos c11] at H
                have c11b0 : (t133 == x8_1) = true := beq_iff_eq.mpr c11
                have c11b1 : (t133 != x8_1) = false := bne_eq_false_iff_eq.mpr c11
                clear c11
                simp only [Option.some.injEq, Prod.mk.injEq] at H
                obtain ⟨rfl, rfl, rfl⟩ := H
                go_wp2_with (first | ((with_reducible refine gate_callee (f := 50) rfl ?_); refine goesL_ (some 34) rfl rfl Try.func50 (by kernel_rfl) rfl #[.string t130] rfl (by (try simp only [List.map_toArray, List.map_cons, List.map_nil]); first | done | rfl | (simp only [List.length_drop, List.length_take]; rfl)) ?_; (with_reducible refine (crc_Sum.calls t130 t133 _ A10.out).mono ?_); rintro e w12 ⟨rfl, hb⟩; refine ⟨_, rfl, ?_⟩; have n0_ := Aside0.mk (below_step (by repeat (first | (with_reducible first | exact HB.out | apply below_alloc | apply pw_below_drewN | apply below_drew1) | exact HB.out)) hb); clear HB; have HB := n0_; clear n0_; (try clear hb); (try clear hb2); (try clear hk); (try clear hi)))
                go_ret3
                exact ⟨by first | rfl | (simp [errW_none, errW_some] <;> rfl) | (simp [*, errW_none, errW_some] <;> rfl), by repeat (first | (with_reducible first | exact HB.out | apply below_alloc | apply pw_below_drewN | apply below_drew1) | exact HB.out)⟩
              · rw [if_neg c11] at H
                have c11b0 : (t133 == x8_1) = false := beq_eq_false_iff_ne.mpr c11
                have c11b1 : (t133 != x8_1) = true := bne_iff_ne.mpr c11
                simp only [Option.some.injEq, Prod.mk.injEq] at H
                obtain ⟨rfl, rfl, rfl⟩ := H
                go_wp2_with (first | ((with_reducible refine gate_callee (f := 50) rfl ?_); refine goesL_ (some 34) rfl rfl Try.func50 (by kernel_rfl) rfl #[.string t130] rfl (by (try simp only [List.map_toArray, List.map_cons, List.map_nil]); first | done | rfl | (simp only [List.length_drop, List.length_take]; rfl)) ?_; (with_reducible refine (crc_Sum.calls t130 t133 _ A10.out).mono ?_); rintro e w13 ⟨rfl, hb⟩; refine ⟨_, rfl, ?_⟩; have n0_ := Aside0.mk (below_step (by repeat (first | (with_reducible first | exact HB.out | apply below_alloc | apply pw_below_drewN | apply below_drew1) | exact HB.out)) hb); clear HB; have HB := n0_; clear n0_; (try clear hb); (try clear hb2); (try clear hk); (try clear hi)))
                go_ret3
                exact ⟨by first | rfl | (simp [errW_none, errW_some] <;> rfl) | (simp [*, errW_none, errW_some] <;> rfl), by repeat (first | (with_reducible first | exact HB.out | apply below_alloc | apply pw_below_drewN | apply below_drew1) | exact HB.out)⟩
      · replace c5 := Bool.eq_false_iff.mpr c5
        subst c5
        have H1 : (some ((⟨#[]⟩ : ByteArray), (⟨#[]⟩ : ByteArray), 30)) = some (r1, r2, r3) := by rw [if_neg (show ¬ (false = true) by decide)] at H; exact H
        clear H
        have H := H1
        clear H1
        simp only [Option.some.injEq, Prod.mk.injEq] at H
        obtain ⟨rfl, rfl, rfl⟩ := H
        go_enter Try.func55, Try.ntmps55
        go_wp2_with (first | ((with_reducible refine gate_callee (f := 69) rfl ?_); refine goesL_ (some 16) rfl rfl Try.func69 (by kernel_rfl) rfl #[.string (a0.extract 4 a0.size)] rfl (by (try simp only [List.map_toArray, List.map_cons, List.map_nil]); first | done | rfl | (simp only [List.length_drop, List.length_take]; rfl)) ?_; (with_reducible refine (codec_GetText.calls (a0.extract 4 a0.size) t130 t131 false _ A4.out).mono ?_); rintro e w' ⟨rfl, ⟨nd, rfl⟩⟩; refine ⟨_, rfl, ?_⟩))
        go_ret3
        exact ⟨by first | rfl | (simp [errW_none, errW_some] <;> rfl) | (simp [*, errW_none, errW_some] <;> rfl), by repeat (first | (with_reducible first | exact HB.out | apply below_alloc | apply pw_below_drewN | apply below_drew1) | exact HB.out)⟩
    · rw [if_neg c3] at H
      exact absurd H (by simp)

end Go.Proofs.Ytkgcaheddhfpgaa.P
/-
  Frames, told plainly: what is put is got.
-/
namespace Go.Proofs.Ytkgcaheddhfpgaa.P
open Go.RowKit Go.Proofs.CodecPlain Go.Proofs.YtkgcaheddhfpgaaW.PrintWords Go.Proofs.YtkgcaheddhfpgaaW.PrintLast Go.Proofs.Ytkgcaheddhfpgaa.B

def In32 (x : Int) : Prop := 0 ≤ x ∧ x < 4294967296

theorem xor_rng {x y : Int} (hx : In32 x) (hy : In32 y) : In32 (bits BinOp.xor IntKind.i64 x y) := by
  obtain ⟨a, rfl⟩ : ∃ a : Nat, x = a := ⟨x.toNat, by have := hx.1; omega⟩
  obtain ⟨b, rfl⟩ : ∃ b : Nat, y = b := ⟨y.toNat, by have := hy.1; omega⟩
  have ha : a < 2 ^ 32 := by have := hx.2; omega
  have hb : b < 2 ^ 32 := by have := hy.2; omega
  have hn : (BitVec.ofInt 64 (a : Int) ^^^ BitVec.ofInt 64 (b : Int)).toNat < 2 ^ 32 := by
    rw [BitVec.toNat_xor]
    refine Nat.xor_lt_two_pow ?_ ?_
    · simp [BitVec.toNat_ofInt]; omega
    · simp [BitVec.toNat_ofInt]; omega
  show In32 (IntKind.wrap .i64 (((BitVec.ofInt 64 (a : Int) ^^^ BitVec.ofInt 64 (b : Int)).toNat : Nat) : Int))
  generalize (BitVec.ofInt 64 (a : Int) ^^^ BitVec.ofInt 64 (b : Int)).toNat = n at *
  have : IntKind.wrap .i64 (n : Int) = n := by
    simp [IntKind.wrap, IntKind.signed, IntKind.bits]
    omega
  unfold In32
  omega

theorem crc1_rng {c : Int} (h : In32 c) : In32 (crc1 c) := by
  have h2 : In32 (c / 2) := by unfold In32 at *; omega
  unfold crc1
  split
  · exact xor_rng h2 ⟨by omega, by omega⟩
  · exact h2

theorem crcN_rng {c : Int} (h : In32 c) : ∀ n, In32 (crcN n c)
  | 0 => h
  | n + 1 => crc1_rng (crcN_rng h n)

theorem stepV_rng {c b : Int} (h : In32 c) : In32 (stepV c b) := by
  unfold stepV
  have := and255 (bits BinOp.xor IntKind.i64 c b)
  refine xor_rng ?_ ?_
  · unfold In32 at *; omega
  · refine crcN_rng ?_ 8
    unfold stepI In32
    omega

theorem sumC_rng : ∀ (l : List UInt8) {c : Int}, In32 c → In32 (sumC l c)
  | [], c, h => h
  | b :: l, c, h => sumC_rng l (stepV_rng h)

theorem sumV_rng (s : ByteArray) : In32 (sumV s) := xor_rng (sumC_rng _ ⟨by omega, by omega⟩) ⟨by omega, by omega⟩

def fourS (n : Int) : ByteArray := strOfNums [(n / 16777216) % 256, (n / 65536) % 256, (n / 256) % 256, n % 256]

def frameOf (t : ByteArray) : ByteArray := fourS (sumV t) ++ textStr t

theorem four_size (n : Int) : (fourS n).size = 4 := by unfold fourS; rw [strOfNums_size]; rfl

theorem frame_size (t : ByteArray) : 5 ≤ (frameOf t).size ∧ (frameOf t).size ≤ t.size + 9 := by
  unfold frameOf
  rw [CodecPlain.size_append, four_size]
  have := textStr_size t
  have h2 : 1 ≤ (textStr t).size := by unfold textStr; rw [CodecPlain.size_append]; have := numStr_size (t.size : Int); omega
  omega

theorem put_f (s : ByteArray) : crc_Put.f s = some (if s.size ≤ 4000 then (frameOf s, 0) else (⟨#[]⟩, 2)) := by
  unfold crc_Put.f
  rw [text_f]
  simp only [Option.bind_some]
  by_cases h : s.size ≤ 4000
  · rw [if_pos h, if_pos h, if_pos rfl]
    unfold crc_Sum.f
    rw [if_pos (by omega)]
    simp only [Option.bind_some]
    rw [if_pos (by have := textStr_size s; rw [strOfNums_size]; simp; omega)]
    rfl
  · rw [if_neg h, if_neg h, if_neg (by decide)]

def noFrame : ByteArray × ByteArray × Int := (⟨#[]⟩, ⟨#[]⟩, 30)

def getFrame (s : ByteArray) : ByteArray × ByteArray × Int :=
  if s.size < 4 then noFrame
  else if (getText (s.extract 4 s.size)).2.2 = true then
    (if sumV (getText (s.extract 4 s.size)).1 = accB (s.data.toList.take 4) then ((getText (s.extract 4 s.size)).1, (getText (s.extract 4 s.size)).2.1, 0) else noFrame)
  else noFrame

theorem get_l0 (s t rest : ByteArray) (h4 : 4 ≤ s.size) (ht : t.size ≤ 1000000000) (d : Nat) : ∀ i : Nat, i + d = 4 →
    Ev (fun r => crc_Get.l0 r s t rest (accB (s.data.toList.take i)) (i : Int)) (if sumV t = accB (s.data.toList.take 4) then (t, rest, 0) else noFrame) := by
  induction d with
  | zero =>
    intro i hi
    obtain rfl : i = 4 := by omega
    refine Ev.step (f := fun _ => some (if sumV t = accB (s.data.toList.take 4) then (t, rest, 0) else noFrame)) (fun r => ?_) (Ev.now _)
    simp only [crc_Get.l0]
    rw [if_neg (by decide)]
    unfold crc_Sum.f
    rw [if_pos ht]
    simp only [Option.bind_some]
    split <;> rfl
  | succ d ih =>
    intro i hi
    have hlt : i < s.size := by omega
    have hl : i < s.data.toList.length := by rw [len_list]; exact hlt
    have hb := accB_bd (s.data.toList.take i)
    have hlen : (s.data.toList.take i).length = i := by rw [List.length_take, len_list]; omega
    rw [hlen] at hb
    have hp : (256 : Int) ^ i ≤ 16777216 := by
      match i, (show i < 4 by omega) with
      | 0, _ => decide
      | 1, _ => decide
      | 2, _ => decide
      | 3, _ => decide
    have hby := s.data.toList[i].toNat_lt
    refine Ev.step (f := fun r => crc_Get.l0 r s t rest (accB (s.data.toList.take (i + 1))) ((i + 1 : Nat) : Int)) (fun r => ?_) (ih (i + 1) (by omega))
    simp only [crc_Get.l0]
    rw [if_pos (by omega), if_pos (by omega), if_pos (by omega), wrap_bt, bt_list s i hl, wrap_id (by omega) (by omega), or_byte _ _ hb.1 (by omega) (by omega) (by omega), wrap_id (by omega) (by omega), List.take_succ_eq_append_getElem hl, accB_snoc]
    rfl

theorem get_ev (s : ByteArray) : Ev (fun k => crc_Get.f k s) (getFrame s) := by
  unfold getFrame
  by_cases h4 : s.size < 4
  · rw [if_pos h4]
    exact Ev.congr (f := fun _ => some noFrame) (fun k => by unfold crc_Get.f; rw [if_pos (by omega)]; rfl) (Ev.now _)
  · rw [if_neg h4]
    by_cases ht : (getText (s.extract 4 s.size)).2.2 = true
    · rw [if_pos ht]
      have hsz : (getText (s.extract 4 s.size)).1.size ≤ 4000 := (getText_got (s := s.extract 4 s.size) (t := (getText (s.extract 4 s.size)).1) (rest := (getText (s.extract 4 s.size)).2.1) (by rw [← ht])).1
      have := get_l0 s (getText (s.extract 4 s.size)).1 (getText (s.extract 4 s.size)).2.1 (by omega) (by omega) 4 0 (by omega)
      refine Ev.congr (f := fun r => crc_Get.l0 r s (getText (s.extract 4 s.size)).1 (getText (s.extract 4 s.size)).2.1 0 0) (fun k => ?_) this
      unfold crc_Get.f
      rw [if_neg (by omega), if_pos (by omega), getText_f]
      simp only [Option.bind_some]
      rw [if_pos ht]
    · rw [if_neg ht]
      refine Ev.congr (f := fun _ => some noFrame) (fun k => ?_) (Ev.now _)
      unfold crc_Get.f
      rw [if_neg (by omega), if_pos (by omega), getText_f]
      simp only [Option.bind_some]
      rw [if_neg ht]
      rfl

theorem accB_four (a b c d : Int) (ha : 0 ≤ a ∧ a < 256) (hb : 0 ≤ b ∧ b < 256) (hc : 0 ≤ c ∧ c < 256) (hd : 0 ≤ d ∧ d < 256) : accB [u8 a, u8 b, u8 c, u8 d] = ((a * 256 + b) * 256 + c) * 256 + d := by
  simp only [accB, List.foldl_cons, List.foldl_nil]
  rw [u8_toNat ha.1 ha.2, u8_toNat hb.1 hb.2, u8_toNat hc.1 hc.2, u8_toNat hd.1 hd.2]
  omega

theorem four_list (n : Int) : (fourS n).data.toList = [u8 ((n / 16777216) % 256), u8 ((n / 65536) % 256), u8 ((n / 256) % 256), u8 (n % 256)] := by
  unfold fourS; rw [strOfNums_list]; rfl

theorem getFrame_put (t : ByteArray) (h : t.size ≤ 4000) (rest : ByteArray) : getFrame (frameOf t ++ rest) = (t, rest, 0) := by
  have hs := frame_size t
  have hr := sumV_rng t
  unfold In32 at hr
  have hl : (frameOf t ++ rest).data.toList = [u8 ((sumV t / 16777216) % 256), u8 ((sumV t / 65536) % 256), u8 ((sumV t / 256) % 256), u8 (sumV t % 256)] ++ (textStr t ++ rest).data.toList := by
    unfold frameOf
    simp only [app_list, four_list, List.append_assoc]
  have he : (frameOf t ++ rest).extract 4 (frameOf t ++ rest).size = textStr t ++ rest := by
    apply ba_ext
    rw [ext_list, hl]
    have : (frameOf t ++ rest).size = 4 + (textStr t ++ rest).data.toList.length := by
      rw [len_list, CodecPlain.size_append, CodecPlain.size_append]
      unfold frameOf
      rw [CodecPlain.size_append, four_size]
      omega
    rw [this]
    show (textStr t ++ rest).data.toList.take (4 + (textStr t ++ rest).data.toList.length - 4) = (textStr t ++ rest).data.toList
    rw [List.take_of_length_le (by omega)]
  unfold getFrame
  rw [if_neg (by rw [CodecPlain.size_append]; omega), he, getText_put t h rest]
  simp only [if_true]
  rw [if_pos]
  rw [hl]
  show sumV t = accB [u8 ((sumV t / 16777216) % 256), u8 ((sumV t / 65536) % 256), u8 ((sumV t / 256) % 256), u8 (sumV t % 256)]
  rw [accB_four _ _ _ _ (by omega) (by omega) (by omega) (by omega)]
  omega

end Go.Proofs.Ytkgcaheddhfpgaa.P
