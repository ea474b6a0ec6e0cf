/-
  Frames, told plainly: what is put is got; frames one behind the other are all told.
-/
import Derived.Test.YtnkakhcombmdoaaHcodecGetNumber
import Derived.Test.YtnkakhcombmdoaaLcrcBase
import Derived.Test.YtnkakhcombmdoaaHcrcSum
import Derived.Test.YtnkakhcombmdoaaFcrcPut
import Derived.Test.YtnkakhcombmdoaaFcrcGet
import Derived.Test.YtnkakhcombmdoaaFcrcAll
import Derived.Test.YtnkakhcombmdoaaFsextonlaw03summed
namespace Go.Proofs.Ytnkakhcombmdoaa.P
open Go.RowKit Go.Proofs.CodecPlain Go.Proofs.YtnkakhcombmdoaaW.PrintWords Go.Proofs.YtnkakhcombmdoaaW.PrintLast Go.Proofs.Ytnkakhcombmdoaa.B

theorem summed_ev : Ev (fun k => sextonlaw03_summed.f k) true := Ev.of (k := 12) sextonlaw03_summed.mono (by decide +kernel)

def In32 (x : Int) : Prop := 0 ≤ x ∧ x < 4294967296
theorem xor_rng {x y : Int} (hx : In32 x) (hy : In32 y) : In32 (bits BinOp.xor IntKind.i64 x y) := by
  obtain ⟨a, rfl⟩ : ∃ a : Nat, x = a := ⟨x.toNat, by have := hx.1; omega⟩
  obtain ⟨b, rfl⟩ : ∃ b : Nat, y = b := ⟨y.toNat, by have := hy.1; omega⟩
  have ha : a < 2 ^ 32 := by have := hx.2; omega
  have hb : b < 2 ^ 32 := by have := hy.2; omega
  have hn : (BitVec.ofInt 64 (a : Int) ^^^ BitVec.ofInt 64 (b : Int)).toNat < 2 ^ 32 := by
    rw [BitVec.toNat_xor]
    refine Nat.xor_lt_two_pow ?_ ?_
    · simp [BitVec.toNat_ofInt]; omega
    · simp [BitVec.toNat_ofInt]; omega
  show In32 (IntKind.wrap .i64 (((BitVec.ofInt 64 (a : Int) ^^^ BitVec.ofInt 64 (b : Int)).toNat : Nat) : Int))
  generalize (BitVec.ofInt 64 (a : Int) ^^^ BitVec.ofInt 64 (b : Int)).toNat = n at *
  have : IntKind.wrap .i64 (n : Int) = n := by
    simp [IntKind.wrap, IntKind.signed, IntKind.bits]
    omega
  unfold In32
  omega
theorem crc1_rng {c : Int} (h : In32 c) : In32 (crc1 c) := by
  have h2 : In32 (c / 2) := by unfold In32 at *; omega
  unfold crc1
  split
  · exact xor_rng h2 ⟨by omega, by omega⟩
  · exact h2
theorem crcN_rng {c : Int} (h : In32 c) : ∀ n, In32 (crcN n c)
  | 0 => h
  | n + 1 => crc1_rng (crcN_rng h n)
theorem stepV_rng {c b : Int} (h : In32 c) : In32 (stepV c b) := by
  unfold stepV
  have := and255 (bits BinOp.xor IntKind.i64 c b)
  refine xor_rng ?_ ?_
  · unfold In32 at *; omega
  · refine crcN_rng ?_ 8
    unfold stepI In32
    omega
theorem sumC_rng : ∀ (l : List UInt8) {c : Int}, In32 c → In32 (sumC l c)
  | [], c, h => h
  | b :: l, c, h => sumC_rng l (stepV_rng h)
theorem sumV_rng (s : ByteArray) : In32 (sumV s) := xor_rng (sumC_rng _ ⟨by omega, by omega⟩) ⟨by omega, by omega⟩

def fourS (n : Int) : ByteArray := strOfNums [(n / 16777216) % 256, (n / 65536) % 256, (n / 256) % 256, n % 256]
def frameOf (t : ByteArray) : ByteArray := fourS (sumV t) ++ textStr t
theorem four_size (n : Int) : (fourS n).size = 4 := by unfold fourS; rw [strOfNums_size]; rfl
theorem frame_size (t : ByteArray) : 5 ≤ (frameOf t).size ∧ (frameOf t).size ≤ t.size + 9 := by
  unfold frameOf
  rw [CodecPlain.size_append, four_size]
  have := textStr_size t
  have h2 : 1 ≤ (textStr t).size := by unfold textStr; rw [CodecPlain.size_append]; have := numStr_size (t.size : Int); omega
  omega
theorem put_f (s : ByteArray) : crc_Put.f s = some (if s.size ≤ 4000 then (frameOf s, 0) else (⟨#[]⟩, 2)) := by
  unfold crc_Put.f
  rw [text_f]
  simp only [Option.bind_some]
  by_cases h : s.size ≤ 4000
  · rw [if_pos h, if_pos h, if_pos rfl]
    unfold crc_Sum.f
    rw [if_pos (by omega)]
    simp only [Option.bind_some]
    rw [if_pos (by have := textStr_size s; rw [strOfNums_size]; simp; omega)]
    rfl
  · rw [if_neg h, if_neg h, if_neg (by decide)]

def noFrame : ByteArray × ByteArray × Int := (⟨#[]⟩, ⟨#[]⟩, 30)
def getFrame (s : ByteArray) : ByteArray × ByteArray × Int :=
  if s.size < 4 then noFrame
  else if (getText (s.extract 4 s.size)).2.2 = true then
    (if sumV (getText (s.extract 4 s.size)).1 = accB (s.data.toList.take 4) then ((getText (s.extract 4 s.size)).1, (getText (s.extract 4 s.size)).2.1, 0) else noFrame)
  else noFrame
theorem get_l0 (s t rest : ByteArray) (h4 : 4 ≤ s.size) (ht : t.size ≤ 1000000000) (d : Nat) : ∀ i : Nat, i + d = 4 →
    Ev (fun r => crc_Get.l0 r s t rest (accB (s.data.toList.take i)) (i : Int)) (if sumV t = accB (s.data.toList.take 4) then (t, rest, 0) else noFrame) := by
  induction d with
  | zero =>
    intro i hi
    obtain rfl : i = 4 := by omega
    refine Ev.step (f := fun _ => some (if sumV t = accB (s.data.toList.take 4) then (t, rest, 0) else noFrame)) (fun r => ?_) (Ev.now _)
    simp only [crc_Get.l0]
    rw [if_neg (by decide)]
    unfold crc_Sum.f
    rw [if_pos ht]
    simp only [Option.bind_some]
    split <;> rfl
  | succ d ih =>
    intro i hi
    have hlt : i < s.size := by omega
    have hl : i < s.data.toList.length := by rw [len_list]; exact hlt
    have hb := accB_bd (s.data.toList.take i)
    have hlen : (s.data.toList.take i).length = i := by rw [List.length_take, len_list]; omega
    rw [hlen] at hb
    have hp : (256 : Int) ^ i ≤ 16777216 := by
      match i, (show i < 4 by omega) with
      | 0, _ => decide
      | 1, _ => decide
      | 2, _ => decide
      | 3, _ => decide
    have hby := s.data.toList[i].toNat_lt
    refine Ev.step (f := fun r => crc_Get.l0 r s t rest (accB (s.data.toList.take (i + 1))) ((i + 1 : Nat) : Int)) (fun r => ?_) (ih (i + 1) (by omega))
    simp only [crc_Get.l0]
    rw [if_pos (by omega), if_pos (by omega), if_pos (by omega), wrap_bt, bt_list s i hl, wrap_id (by omega) (by omega), or_byte _ _ hb.1 (by omega) (by omega) (by omega), wrap_id (by omega) (by omega), List.take_succ_eq_append_getElem hl, accB_snoc]
    rfl
theorem get_ev (s : ByteArray) : Ev (fun k => crc_Get.f k s) (getFrame s) := by
  unfold getFrame
  by_cases h4 : s.size < 4
  · rw [if_pos h4]
    exact Ev.congr (f := fun _ => some noFrame) (fun k => by unfold crc_Get.f; rw [if_pos (by omega)]; rfl) (Ev.now _)
  · rw [if_neg h4]
    by_cases ht : (getText (s.extract 4 s.size)).2.2 = true
    · rw [if_pos ht]
      have hsz : (getText (s.extract 4 s.size)).1.size ≤ 4000 := (getText_got (s := s.extract 4 s.size) (t := (getText (s.extract 4 s.size)).1) (rest := (getText (s.extract 4 s.size)).2.1) (by rw [← ht])).1
      have := get_l0 s (getText (s.extract 4 s.size)).1 (getText (s.extract 4 s.size)).2.1 (by omega) (by omega) 4 0 (by omega)
      refine Ev.congr (f := fun r => crc_Get.l0 r s (getText (s.extract 4 s.size)).1 (getText (s.extract 4 s.size)).2.1 0 0) (fun k => ?_) this
      unfold crc_Get.f
      rw [if_neg (by omega), if_pos (by omega), getText_f]
      simp only [Option.bind_some]
      rw [if_pos ht]
    · rw [if_neg ht]
      refine Ev.congr (f := fun _ => some noFrame) (fun k => ?_) (Ev.now _)
      unfold crc_Get.f
      rw [if_neg (by omega), if_pos (by omega), getText_f]
      simp only [Option.bind_some]
      rw [if_neg ht]
      rfl

theorem accB_four (a b c d : Int) (ha : 0 ≤ a ∧ a < 256) (hb : 0 ≤ b ∧ b < 256) (hc : 0 ≤ c ∧ c < 256) (hd : 0 ≤ d ∧ d < 256) : accB [u8 a, u8 b, u8 c, u8 d] = ((a * 256 + b) * 256 + c) * 256 + d := by
  simp only [accB, List.foldl_cons, List.foldl_nil]
  rw [u8_toNat ha.1 ha.2, u8_toNat hb.1 hb.2, u8_toNat hc.1 hc.2, u8_toNat hd.1 hd.2]
  omega
theorem four_list (n : Int) : (fourS n).data.toList = [u8 ((n / 16777216) % 256), u8 ((n / 65536) % 256), u8 ((n / 256) % 256), u8 (n % 256)] := by
  unfold fourS; rw [strOfNums_list]; rfl
theorem getFrame_put (t : ByteArray) (h : t.size ≤ 4000) (rest : ByteArray) : getFrame (frameOf t ++ rest) = (t, rest, 0) := by
  have hs := frame_size t
  have hr := sumV_rng t
  unfold In32 at hr
  have hl : (frameOf t ++ rest).data.toList = [u8 ((sumV t / 16777216) % 256), u8 ((sumV t / 65536) % 256), u8 ((sumV t / 256) % 256), u8 (sumV t % 256)] ++ (textStr t ++ rest).data.toList := by
    unfold frameOf
    simp only [app_list, four_list, List.append_assoc]
  have he : (frameOf t ++ rest).extract 4 (frameOf t ++ rest).size = textStr t ++ rest := by
    apply ba_ext
    rw [ext_list, hl]
    have : (frameOf t ++ rest).size = 4 + (textStr t ++ rest).data.toList.length := by
      rw [len_list, CodecPlain.size_append, CodecPlain.size_append]
      unfold frameOf
      rw [CodecPlain.size_append, four_size]
      omega
    rw [this]
    show (textStr t ++ rest).data.toList.take (4 + (textStr t ++ rest).data.toList.length - 4) = (textStr t ++ rest).data.toList
    rw [List.take_of_length_le (by omega)]
  unfold getFrame
  rw [if_neg (by rw [CodecPlain.size_append]; omega), he, getText_put t h rest]
  simp only [if_true]
  rw [if_pos]
  rw [hl]
  show sumV t = accB [u8 ((sumV t / 16777216) % 256), u8 ((sumV t / 65536) % 256), u8 ((sumV t / 256) % 256), u8 (sumV t % 256)]
  rw [accB_four _ _ _ _ (by omega) (by omega) (by omega) (by omega)]
  omega
theorem getFrame_got {s t rest : ByteArray} (h : getFrame s = (t, rest, 0)) : t.size ≤ 4000 ∧ s = frameOf t ++ rest := by
  unfold getFrame at h
  by_cases h4 : s.size < 4
  · rw [if_pos h4] at h; simp [noFrame] at h
  · rw [if_neg h4] at h
    by_cases ht : (getText (s.extract 4 s.size)).2.2 = true
    · rw [if_pos ht] at h
      by_cases hs : sumV (getText (s.extract 4 s.size)).1 = accB (s.data.toList.take 4)
      · rw [if_pos hs] at h
        simp only [Prod.mk.injEq, and_true] at h
        obtain ⟨h1, h2⟩ := h
        have hg : getText (s.extract 4 s.size) = (t, rest, true) := by rw [← h1, ← h2, ← ht]
        obtain ⟨hz, hx⟩ := getText_got hg
        refine ⟨hz, ba_ext ?_⟩
        rw [h1] at hs
        have hsp : s.data.toList = s.data.toList.take 4 ++ s.data.toList.drop 4 := (List.take_append_drop 4 _).symm
        have hd : s.data.toList.drop 4 = (textStr t ++ rest).data.toList := by
          rw [← hx, ext_list, List.take_of_length_le (by rw [List.length_drop, len_list]; omega)]
        obtain ⟨b0, b1, b2, b3, hb⟩ : ∃ b0 b1 b2 b3, s.data.toList.take 4 = [b0, b1, b2, b3] := by
          have hlen : (s.data.toList.take 4).length = 4 := by rw [List.length_take, len_list]; omega
          match s.data.toList.take 4, hlen with
          | [b0, b1, b2, b3], _ => exact ⟨b0, b1, b2, b3, rfl⟩
        rw [hsp, hd, hb]
        unfold frameOf
        simp only [app_list, four_list, List.append_assoc]
        rw [hb] at hs
        have q0 := b0.toNat_lt; have q1 := b1.toNat_lt; have q2 := b2.toNat_lt; have q3 := b3.toNat_lt
        have hv : accB [b0, b1, b2, b3] = (((b0.toNat : Int) * 256 + b1.toNat) * 256 + b2.toNat) * 256 + b3.toNat := by
          simp only [accB, List.foldl_cons, List.foldl_nil]; omega
        rw [hs, hv]
        have e0 : ((((b0.toNat : Int) * 256 + b1.toNat) * 256 + b2.toNat) * 256 + b3.toNat) / 16777216 % 256 = b0.toNat := by omega
        have e1 : ((((b0.toNat : Int) * 256 + b1.toNat) * 256 + b2.toNat) * 256 + b3.toNat) / 65536 % 256 = b1.toNat := by omega
        have e2 : ((((b0.toNat : Int) * 256 + b1.toNat) * 256 + b2.toNat) * 256 + b3.toNat) / 256 % 256 = b2.toNat := by omega
        have e3 : ((((b0.toNat : Int) * 256 + b1.toNat) * 256 + b2.toNat) * 256 + b3.toNat) % 256 = b3.toNat := by omega
        rw [e0, e1, e2, e3, u8_of, u8_of, u8_of, u8_of]
      · rw [if_neg hs] at h; simp [noFrame] at h
    · rw [if_neg ht] at h; simp [noFrame] at h
theorem getFrame_no {s : ByteArray} (h : (getFrame s).2.2 ≠ 0) : getFrame s = noFrame := by
  unfold getFrame at h ⊢
  split
  · rfl
  · rename_i h4
    rw [if_neg h4] at h
    split
    · rename_i ht
      rw [if_pos ht] at h
      split
      · rename_i hs; rw [if_pos hs] at h; exact absurd rfl h
      · rfl
    · rfl

/-- All frames at the begin of bytes, and what is left. -/
def allF : Nat → ByteArray → List ByteArray × ByteArray
  | 0, s => ([], s)
  | n + 1, s => if (getFrame s).2.2 = 0 then ((getFrame s).1 :: (allF n (getFrame s).2.1).1, (allF n (getFrame s).2.1).2) else ([], s)
theorem getFrame_less {s : ByteArray} (h : (getFrame s).2.2 = 0) : (getFrame s).2.1.size + 5 ≤ s.size := by
  have hg := (getFrame_got (s := s) (t := (getFrame s).1) (rest := (getFrame s).2.1) (by rw [← h])).2
  have := frame_size (getFrame s).1
  have hz : s.size = (frameOf (getFrame s).1).size + (getFrame s).2.1.size := by rw [← CodecPlain.size_append, ← hg]
  omega
theorem all_ev (x0 : ByteArray) (hx : x0.size ≤ 1000000000) : ∀ (n : Nat) (s : ByteArray) (l : List ByteArray), s.size ≤ n → s.size ≤ x0.size → l.length + n < 8796093022208 →
    Ev (fun k => crc_All.l0 k x0 l s) (l ++ (allF n s).1, (x0.size : Int) - ((allF n s).2.size : Int)) := by
  intro n
  induction n with
  | zero =>
    intro s l hs hs0 hl
    refine Ev.step (f := fun k => (crc_Get.f k s).bind fun bt299 => (if bt299.2.2 = 0 then (if l.length < 8796093022208 then (crc_All.l0 k x0 (l ++ [bt299.1]) bt299.2.1) else (none)) else (some (l, wrap64 ((x0.size : Int) - (s.size : Int)))))) (fun k => by simp only [crc_All.l0]) ?_
    refine Ev.bind (get_ev s) ?_
    have hn : getFrame s = noFrame := by unfold getFrame; rw [if_pos (by omega)]
    rw [hn, wrap_id (by omega) (by omega)]
    simp only [noFrame, allF, List.append_nil]
    exact Ev.now _
  | succ n ih =>
    intro s l hs hs0 hl
    refine Ev.step (f := fun k => (crc_Get.f k s).bind fun bt299 => (if bt299.2.2 = 0 then (if l.length < 8796093022208 then (crc_All.l0 k x0 (l ++ [bt299.1]) bt299.2.1) else (none)) else (some (l, wrap64 ((x0.size : Int) - (s.size : Int)))))) (fun k => by simp only [crc_All.l0]) ?_
    refine Ev.bind (get_ev s) ?_
    by_cases h : (getFrame s).2.2 = 0
    · have hless := getFrame_less h
      have := ih (getFrame s).2.1 (l ++ [(getFrame s).1]) (by omega) (by omega) (by simp; omega)
      simp only [allF]
      rw [if_pos h]
      refine Ev.congr (f := fun k => crc_All.l0 k x0 (l ++ [(getFrame s).1]) (getFrame s).2.1) (fun k => by rw [if_pos h, if_pos (by omega)]) ?_
      simpa using this
    · simp only [allF]
      rw [if_neg h]
      refine Ev.congr (f := fun _ => some (l, (x0.size : Int) - (s.size : Int))) (fun k => by rw [if_neg h, wrap_id (by omega) (by omega)]) ?_
      simpa using Ev.now _
theorem all_of (s : ByteArray) (hs : s.size ≤ 1000000000) : Ev (fun k => crc_All.f k s) ((allF s.size s).1, (s.size : Int) - ((allF s.size s).2.size : Int)) := by
  have := all_ev s hs s.size s [] (Nat.le_refl _) (Nat.le_refl _) (by simp; omega)
  simpa [crc_All.f] using this
theorem allF_less : ∀ (n : Nat) (s : ByteArray), (allF n s).2.size ≤ s.size
  | 0, s => Nat.le_refl _
  | n + 1, s => by
    simp only [allF]
    by_cases h : (getFrame s).2.2 = 0
    · rw [if_pos h]
      have := allF_less n (getFrame s).2.1
      have := getFrame_less h
      simp only
      omega
    · rw [if_neg h]
      exact Nat.le_refl _
theorem allF_cat : ∀ (l : List ByteArray) (rest : ByteArray) (n : Nat), (∀ t ∈ l, t.size ≤ 4000) → (catStr (l.map frameOf) ++ rest).size ≤ n →
    ∃ m, rest.size ≤ m ∧ allF n (catStr (l.map frameOf) ++ rest) = (l ++ (allF m rest).1, (allF m rest).2)
  | [], rest, n, _, hn => by
    have e : catStr (([] : List ByteArray).map frameOf) ++ rest = rest := ba_ext (by rw [app_list]; rfl)
    rw [e] at hn ⊢
    exact ⟨n, hn, by simp⟩
  | t :: l, rest, n, ht, hn => by
    have e : catStr ((t :: l).map frameOf) ++ rest = frameOf t ++ (catStr (l.map frameOf) ++ rest) := ba_ext (by simp [catStr, app_list])
    rw [e] at hn ⊢
    have hf := frame_size t
    rw [CodecPlain.size_append] at hn
    obtain ⟨n', rfl⟩ : ∃ n', n = n' + 1 := ⟨n - 1, by omega⟩
    obtain ⟨m, hm, hx⟩ := allF_cat l rest n' (fun x hx => ht x (List.mem_cons_of_mem _ hx)) (by omega)
    refine ⟨m, hm, ?_⟩
    simp only [allF]
    rw [getFrame_put t (ht t List.mem_cons_self) _]
    simp only [if_true]
    rw [hx]
    rfl
end Go.Proofs.Ytnkakhcombmdoaa.P
