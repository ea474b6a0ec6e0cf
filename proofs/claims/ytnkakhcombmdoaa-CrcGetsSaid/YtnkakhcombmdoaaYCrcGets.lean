/-
  The plain statement of CrcGets: bytes begin with just this frame, or none, and have just these.
-/
import Derived.Test.YtnkakhcombmdoaaLcrcRef
import Derived.Test.YtnkakhcombmdoaaMOpens
import Derived.Test.YtnkakhcombmdoaaFsextonref03Get
import Derived.Test.YtnkakhcombmdoaaFsextonref03All
import Derived.Test.YtnkakhcombmdoaaFsextonlaw03CrcGets
import Derived.Test.YtnkakhcombmdoaaLcrcBase
import Derived.Test.YtnkakhcombmdoaaFsextonref01Number
import Derived.Test.YtnkakhcombmdoaaFsextonref01Text
import Derived.Test.YtnkakhcombmdoaaFsextonref01GetNumber
import Derived.Test.YtnkakhcombmdoaaFsextonref01GetText
namespace Go.Proofs.Ytnkakhcombmdoaa.B
open Go.RowKit Go.Proofs.CodecPlain Go.Proofs.YtnkakhcombmdoaaW.PrintWords Go.Proofs.YtnkakhcombmdoaaW.PrintLast Go.Proofs.Ytnkakhcombmdoaa.P

theorem refNumber_l0 : ∀ x : Int, 0 ≤ x → x < 4294967296 → ∀ (acc : ByteArray) (c : Int), acc.size + (nbytes x).length ≤ 1000 → 0 ≤ c → c + ((nbytes x).length : Int) ≤ 1000 →
    Ev (fun k => sextonref01_Number.l0 k x acc c) (strOfNums [(c + ((nbytes x).length : Int)) % 256] ++ (strOfNums (nbytes x) ++ acc), 0) := by
  apply nat_ind
  intro x h0 ih h1 acc c ha hc0 hc1
  by_cases hz : x = 0
  · subst hz
    refine Ev.step (f := fun _ => some (strOfNums [c % 256] ++ acc, 0)) (fun k => ?_) ?_
    · simp only [sextonref01_Number.l0]
      rw [if_neg (by omega)]
      simp only [Option.bind_some]
      rw [if_pos (by rw [strOfNums_size]; simp; omega)]
    · rw [nbytes_zero]
      have : strOfNums [] ++ acc = acc := ba_ext (by rw [app_list, strOfNums_list]; rfl)
      simp only [List.length_nil, Int.natCast_zero, Int.add_zero, this]
      exact Ev.now _
  · refine Ev.step (f := fun k => sextonref01_Number.l0 k (x / 256) (strOfNums [x % 256] ++ acc) (c + 1)) (fun k => ?_) ?_
    · simp only [sextonref01_Number.l0]
      rw [if_pos (by omega)]
      simp only [Option.bind_some]
      rw [if_pos (by rw [strOfNums_size]; simp; omega), Int.tdiv_eq_ediv_of_nonneg h0, wrap_id (x := x / 256) (by omega) (by omega), wrap_id (x := c + 1) (by omega) (by omega), Int.tmod_eq_emod_of_nonneg h0]
      congr 4
      omega
    · have hlen : (nbytes x).length = (nbytes (x / 256)).length + 1 := by rw [nbytes_rec x (by omega) h1]; simp
      have := ih (x / 256) (by omega) (by omega) (by omega) (strOfNums [x % 256] ++ acc) (c + 1) (by
        rw [CodecPlain.size_append, strOfNums_size]; simp; rw [hlen] at ha; omega) (by omega) (by omega)
      rw [nbytes_rec x (by omega) h1]
      have e1 : strOfNums (nbytes (x / 256)) ++ (strOfNums [x % 256] ++ acc) = strOfNums (nbytes (x / 256) ++ [x % 256]) ++ acc := ba_ext (by simp only [app_list, strOfNums_list]; simp)
      rw [e1] at this
      have e2 : c + 1 + ((nbytes (x / 256)).length : Int) = c + ((nbytes (x / 256) ++ [x % 256]).length : Int) := by simp; omega
      rw [e2] at this
      exact this
theorem refNumber (n : Int) : Ev (fun k => sextonref01_Number.f k n) (if 0 ≤ n ∧ n ≤ 4294967295 then (numStr n, 0) else (⟨#[]⟩, 1)) := by
  by_cases h0 : n < 0
  · rw [if_neg (by omega)]
    refine Ev.congr (f := fun k => sextonref01_Number.j0 k n true) (fun k => by unfold sextonref01_Number.f; rw [if_pos h0]) ?_
    exact Ev.step (f := fun _ => some (⟨#[]⟩, 1)) (fun k => by simp [sextonref01_Number.j0]) (Ev.now _)
  · refine Ev.congr (f := fun k => sextonref01_Number.j0 k n (decide (n > 4294967295))) (fun k => by unfold sextonref01_Number.f; rw [if_neg h0]) ?_
    by_cases h1 : n > 4294967295
    · rw [if_neg (by omega), decide_eq_true h1]
      exact Ev.step (f := fun _ => some (⟨#[]⟩, 1)) (fun k => by simp [sextonref01_Number.j0]) (Ev.now _)
    · rw [if_pos (by omega), decide_eq_false h1]
      refine Ev.step (f := fun k => sextonref01_Number.l0 k n ⟨#[]⟩ 0) (fun k => by simp [sextonref01_Number.j0]) ?_
      have hl := nbytes_length n
      have := refNumber_l0 n (by omega) (by omega) ⟨#[]⟩ 0 (by have : (⟨#[]⟩ : ByteArray).size = 0 := rfl; omega) (by omega) (by omega)
      have e : strOfNums [(0 + ((nbytes n).length : Int)) % 256] ++ (strOfNums (nbytes n) ++ ⟨#[]⟩) = numStr n := ba_ext (by
        simp only [app_list, strOfNums_list, numStr_list]
        rw [show (0 + ((nbytes n).length : Int)) % 256 = ((nbytes n).length : Int) by omega]
        simp)
      rw [e] at this
      exact this
theorem refText (s : ByteArray) : Ev (fun k => sextonref01_Text.f k s) (if s.size ≤ 4000 then (textStr s, 0) else (⟨#[]⟩, 2)) := by
  by_cases h : s.size ≤ 4000
  · rw [if_pos h]
    have hn := refNumber (s.size : Int)
    rw [if_pos (by omega)] at hn
    have hs := numStr_size (s.size : Int)
    refine Ev.congr (f := fun k => (sextonref01_Number.f k (s.size : Int)).bind fun bt116 => (if bt116.1.size + s.size ≤ 9223372036854775807 then (some (bt116.1 ++ s, 0)) else (none))) (fun k => by unfold sextonref01_Text.f; rw [if_neg (by omega)]) ?_
    refine Ev.bind hn (Ev.congr (f := fun _ => some (textStr s, 0)) (fun k => ?_) (Ev.now _))
    simp only
    rw [if_pos (by omega)]
    rfl
  · rw [if_neg h]
    exact Ev.congr (f := fun _ => some (⟨#[]⟩, 2)) (fun k => by unfold sextonref01_Text.f; rw [if_pos (by omega)]) (Ev.now _)

end Go.Proofs.Ytnkakhcombmdoaa.B
namespace Go.Proofs.Ytnkakhcombmdoaa.B
open Go.RowKit Go.Proofs.CodecPlain Go.Proofs.YtnkakhcombmdoaaW.PrintWords Go.Proofs.YtnkakhcombmdoaaW.PrintLast Go.Proofs.Ytnkakhcombmdoaa.P

theorem accB_bd4 (l : List UInt8) (h : l.length ≤ 4) : 0 ≤ accB l ∧ accB l < 4294967296 := by
  have hbd := accB_bd l
  refine ⟨hbd.1, Int.lt_of_lt_of_le hbd.2 ?_⟩
  match l.length, h with
  | 0, _ => decide
  | 1, _ => decide
  | 2, _ => decide
  | 3, _ => decide
  | 4, _ => decide
theorem bt_hd (s : ByteArray) (h : 0 < s.size) : bt s 0 = (hd s : Int) := by
  unfold bt hd
  rw [dif_pos (by simpa using h), dif_pos h]
  rfl
theorem getNum_by (s : ByteArray) (h0 : 0 < s.size) (h4 : hd s ≤ 4) (h5 : hd s < s.size) :
    getNum s = if numStr (accB (s.extract 1 (1 + hd s)).data.toList) = s.extract 0 (1 + hd s) then (accB (s.extract 1 (1 + hd s)).data.toList, s.extract (1 + hd s) s.size, true) else (0, ⟨#[]⟩, false) := by
  have hbl : ((s.extract 1 (1 + hd s)).data.toList).length = hd s := by rw [len_list, ByteArray.size_extract]; omega
  have hbd := accB_bd4 (s.extract 1 (1 + hd s)).data.toList (by omega)
  have hlt : accB (s.extract 1 (1 + hd s)).data.toList ≤ 4294967295 := by omega
  have hsplit : s = s.extract 0 (1 + hd s) ++ s.extract (1 + hd s) s.size := by
    apply ba_ext
    rw [app_list, ext_list, ext_list, List.drop_zero, Nat.sub_zero]
    rw [List.take_of_length_le (l := s.data.toList.drop (1 + hd s)) (by rw [List.length_drop, len_list]; omega), List.take_append_drop]
  by_cases he : numStr (accB (s.extract 1 (1 + hd s)).data.toList) = s.extract 0 (1 + hd s)
  · rw [if_pos he]
    have := getNum_put (accB (s.extract 1 (1 + hd s)).data.toList) hbd.1 hlt (s.extract (1 + hd s) s.size)
    rw [he, ← hsplit] at this
    exact this
  · rw [if_neg he]
    cases hok : (getNum s).2.2 with
    | false => exact getNum_no' hok
    | true =>
      exfalso
      obtain ⟨n, r, b, hn⟩ : ∃ n r b, getNum s = (n, r, b) := ⟨_, _, _, rfl⟩
      rw [hn] at hok
      simp only at hok
      subst hok
      obtain ⟨h1, h2, h3⟩ := getNum_got hn
      have hval : n = accB (s.extract 1 (1 + hd s)).data.toList := by
        rw [getNum_is s h0 h4 h5] at hn
        split at hn
        · simp at hn
        · simp only [Prod.mk.injEq, and_true] at hn; exact hn.1.symm
      have hhd : hd s = (nbytes n).length := by
        have hl := nbytes_length n
        conv => lhs; rw [h3]
        rw [hd_list, app_list, numStr_list]
        have := u8_toNat (n := ((nbytes n).length : Int)) (by omega) (by omega)
        show (u8 _).toNat = _
        omega
      apply he
      rw [← hval]
      apply ba_ext
      rw [ext_list, List.drop_zero, Nat.sub_zero, hhd]
      conv => rhs; rw [h3]
      rw [app_list, List.take_append_of_le_length (by rw [len_list, numStr_sz]; exact Nat.le_refl _), List.take_of_length_le (by rw [len_list, numStr_sz]; exact Nat.le_refl _)]
theorem refGet_l0 (s : ByteArray) (m : Nat) (h4 : m ≤ 4) (h5 : m < s.size) (d : Nat) : ∀ i : Nat, i + d = 1 + m → 1 ≤ i →
    Ev (fun k => sextonref01_GetNumber.l0 k s ((1 + m : Nat) : Int) (accB ((s.data.toList.drop 1).take (i - 1))) (i : Int))
      (if numStr (accB (s.extract 1 (1 + m)).data.toList) = s.extract 0 (1 + m) then (accB (s.extract 1 (1 + m)).data.toList, s.extract (1 + m) s.size, true) else (0, ⟨#[]⟩, false)) := by
  induction d with
  | zero =>
    intro i hi h1
    obtain rfl : i = 1 + m := by omega
    have hb : (s.data.toList.drop 1).take (1 + m - 1) = (s.extract 1 (1 + m)).data.toList := by rw [ext_list]
    rw [hb]
    have hbl : ((s.extract 1 (1 + m)).data.toList).length = m := by rw [len_list, ByteArray.size_extract]; omega
    have hbd := accB_bd4 (s.extract 1 (1 + m)).data.toList (by omega)
    have hlt : accB (s.extract 1 (1 + m)).data.toList ≤ 4294967295 := by omega
    generalize accB (s.extract 1 (1 + m)).data.toList = v at *
    have hn := refNumber v
    rw [if_pos ⟨hbd.1, hlt⟩] at hn
    refine Ev.step (f := fun k => (sextonref01_Number.f k v).bind fun bt186 => (if (0 : Int) ≤ ((1 + m : Nat) : Int) then (if ((1 + m : Nat) : Int) ≤ (s.size : Int) then (if bt186.1.toList = (s.extract 0 (1 + m)).toList then (some (v, s.extract (1 + m) s.size, true)) else (some (0, (⟨#[]⟩ : ByteArray), false))) else (none)) else (none))) (fun k => ?_) ?_
    · simp only [sextonref01_GetNumber.l0]
      rw [if_neg (by omega)]
      rfl
    · refine Ev.bind hn (Ev.congr (f := fun _ => some (if numStr v = s.extract 0 (1 + m) then (v, s.extract (1 + m) s.size, true) else (0, ⟨#[]⟩, false))) (fun k => ?_) (Ev.now _))
      simp only
      rw [if_pos (by omega), if_pos (by omega)]
      by_cases he : numStr v = s.extract 0 (1 + m)
      · rw [if_pos he, if_pos (by rw [he])]
      · rw [if_neg he, if_neg (fun h => he (toList_inj h))]
  | succ d ih =>
    intro i hi h1
    have hlt : i < s.size := by omega
    have hll : i < s.data.toList.length := by rw [len_list]; exact hlt
    have hn := ih (i + 1) (by omega) (by omega)
    have hacc : accB ((s.data.toList.drop 1).take (i + 1 - 1)) = 256 * accB ((s.data.toList.drop 1).take (i - 1)) + bt s (i : Int) := by
      have hl2 : i - 1 < (s.data.toList.drop 1).length := by rw [List.length_drop]; omega
      rw [bt_list s i hll, show i + 1 - 1 = (i - 1) + 1 by omega, List.take_succ_eq_append_getElem hl2, accB_snoc]
      have : (s.data.toList.drop 1)[i - 1] = s.data.toList[i] := by
        rw [List.getElem_drop]
        congr 1
        omega
      rw [this]
      omega
    have hbd := accB_bd4 ((s.data.toList.drop 1).take (i - 1)) (by rw [List.length_take]; omega)
    have hbr := bt_range s (i : Int)
    refine Ev.step (f := fun k => sextonref01_GetNumber.l0 k s ((1 + m : Nat) : Int) (accB ((s.data.toList.drop 1).take (i + 1 - 1))) ((i + 1 : Nat) : Int)) (fun k => ?_) hn
    simp only [sextonref01_GetNumber.l0]
    rw [if_pos (by omega), if_pos (by omega), if_pos (by omega), wrap_bt, wrap_id (x := 256 * accB ((s.data.toList.drop 1).take (i - 1))) (by omega) (by omega), wrap_id (x := _ + bt s (i : Int)) (by omega) (by omega), wrap_id (x := (i : Int) + 1) (by omega) (by omega), hacc]
    rfl
theorem refGetNumber (s : ByteArray) : Ev (fun k => sextonref01_GetNumber.f k s) (getNum s) := by
  have hno : Ev (fun k => sextonref01_GetNumber.j0 k s true) (0, ⟨#[]⟩, false) :=
    Ev.step (f := fun _ => some (0, ⟨#[]⟩, false)) (fun k => by simp [sextonref01_GetNumber.j0]) (Ev.now _)
  by_cases h0 : s.size = 0
  · rw [getNum_no (.inl h0)]
    exact Ev.congr (fun k => by unfold sextonref01_GetNumber.f; rw [if_pos (by omega)]) hno
  · have q : 0 < s.size := by omega
    have hb := bt_hd s q
    by_cases h4 : 4 < hd s
    · rw [getNum_no (.inr (.inl h4))]
      exact Ev.congr (fun k => by unfold sextonref01_GetNumber.f; rw [if_neg (by omega), if_pos (by omega), if_pos (by omega)]) hno
    · have hw : wrap64 (1 + wrap64 (bt s 0)) = ((1 + hd s : Nat) : Int) := by
        rw [wrap_bt, hb, wrap_id (by omega) (by omega)]; omega
      refine Ev.congr (f := fun k => sextonref01_GetNumber.j0 k s (decide ((s.size : Int) < ((1 + hd s : Nat) : Int)))) (fun k => by unfold sextonref01_GetNumber.f; rw [if_neg (by omega), if_pos (by omega), if_neg (by omega), hw]) ?_
      by_cases h5 : s.size ≤ hd s
      · rw [getNum_no (.inr (.inr h5)), decide_eq_true (by omega)]
        exact hno
      · rw [decide_eq_false (by omega), getNum_by s q (by omega) (by omega)]
        have := refGet_l0 s (hd s) (by omega) (by omega) (hd s) 1 (by omega) (by omega)
        refine Ev.step (f := fun k => sextonref01_GetNumber.l0 k s ((1 + hd s : Nat) : Int) 0 1) (fun k => ?_) this
        simp only [sextonref01_GetNumber.j0]
        rw [if_neg (by decide), if_pos (by omega), hw]
theorem refGetText (s : ByteArray) : Ev (fun k => sextonref01_GetText.f k s) (getText s) := by
  have hn := refGetNumber s
  refine Ev.congr (fun k => by unfold sextonref01_GetText.f; rfl) (Ev.bind hn (Ev.congr (f := fun _ => some (getText s)) (fun k => ?_) (Ev.now _)))
  have h := getText_f s
  unfold codec_GetText.f codec_GetNumber.f at h
  simp only [Option.bind_some] at h
  exact h
end Go.Proofs.Ytnkakhcombmdoaa.B
namespace Go.Proofs.Ytnkakhcombmdoaa.Pure
open Go.RowKit Go.Proofs.CodecPlain Go.Proofs.YtnkakhcombmdoaaW.PrintWords Go.Proofs.YtnkakhcombmdoaaW.PrintLast Go.Proofs.Ytnkakhcombmdoaa.P Go.Proofs.Ytnkakhcombmdoaa.B Go.Proofs.Ytnkakhcombmdoaa.C Go.Proofs.Ytnkakhcombmdoaa.Opens

theorem four_iff (n : Int) (h : In32 n) (l : List UInt8) (hl : l.length = 4) : (fourS n).data.toList = l ↔ n = accB l := by
  unfold In32 at h
  match l, hl with
  | [b0, b1, b2, b3], _ =>
    have q0 := b0.toNat_lt; have q1 := b1.toNat_lt; have q2 := b2.toNat_lt; have q3 := b3.toNat_lt
    have hv : accB [b0, b1, b2, b3] = (((b0.toNat : Int) * 256 + b1.toNat) * 256 + b2.toNat) * 256 + b3.toNat := by
      simp only [accB, List.foldl_cons, List.foldl_nil]; omega
    constructor
    · intro he
      rw [← he, four_list, accB_four _ _ _ _ (by omega) (by omega) (by omega) (by omega)]
      omega
    · intro he
      rw [he, hv, four_list]
      have e0 : ((((b0.toNat : Int) * 256 + b1.toNat) * 256 + b2.toNat) * 256 + b3.toNat) / 16777216 % 256 = b0.toNat := by omega
      have e1 : ((((b0.toNat : Int) * 256 + b1.toNat) * 256 + b2.toNat) * 256 + b3.toNat) / 65536 % 256 = b1.toNat := by omega
      have e2 : ((((b0.toNat : Int) * 256 + b1.toNat) * 256 + b2.toNat) * 256 + b3.toNat) / 256 % 256 = b2.toNat := by omega
      have e3 : ((((b0.toNat : Int) * 256 + b1.toNat) * 256 + b2.toNat) * 256 + b3.toNat) % 256 = b3.toNat := by omega
      rw [e0, e1, e2, e3, u8_of, u8_of, u8_of, u8_of]
theorem refGet (s : ByteArray) : Ev (fun k => sextonref03_Get.f k s) (getFrame s) := by
  unfold getFrame
  by_cases h4 : s.size < 4
  · rw [if_pos h4]
    exact Ev.congr (f := fun _ => some noFrame) (fun k => by unfold sextonref03_Get.f; rw [if_pos (by omega)]; rfl) (Ev.now _)
  · rw [if_neg h4]
    obtain ⟨K1, e1⟩ := refGetText (s.extract 4 s.size)
    simp only at e1
    have hx : (s.extract 0 4).data.toList = s.data.toList.take 4 := by rw [ext_list]; rfl
    have hlen : (s.data.toList.take 4).length = 4 := by rw [List.length_take, len_list]; omega
    by_cases ht : (getText (s.extract 4 s.size)).2.2 = true
    · rw [if_pos ht]
      have hsz : (getText (s.extract 4 s.size)).1.size ≤ 4000 := (getText_got (s := s.extract 4 s.size) (t := (getText (s.extract 4 s.size)).1) (rest := (getText (s.extract 4 s.size)).2.1) (by rw [← ht])).1
      obtain ⟨K2, e2⟩ := sum_ev (getText (s.extract 4 s.size)).1 (by omega)
      simp only at e2
      have hr := sumV_rng (getText (s.extract 4 s.size)).1
      have hi := four_iff _ hr (s.data.toList.take 4) hlen
      refine ⟨K1 + K2, fun k hk => ?_⟩
      show sextonref03_Get.f k s = _
      unfold sextonref03_Get.f
      rw [if_neg (by omega), if_pos (by omega), e1 k (by omega)]
      simp only [Option.bind_some]
      rw [if_pos ht, e2 k (by omega)]
      simp only [Option.bind_some]
      rw [four_f _ hr]
      simp only [Option.bind_some]
      rw [if_pos (by decide)]
      by_cases he : sumV (getText (s.extract 4 s.size)).1 = accB (s.data.toList.take 4)
      · rw [if_pos he, if_pos (by rw [ByteArray.toList_eq, ByteArray.toList_eq, hi.2 he, hx])]
      · rw [if_neg he, if_neg (fun h => he (hi.1 (by rw [ByteArray.toList_eq, ByteArray.toList_eq, hx] at h; exact h)))]
        rfl
    · rw [if_neg ht]
      refine ⟨K1, fun k hk => ?_⟩
      show sextonref03_Get.f k s = _
      unfold sextonref03_Get.f
      rw [if_neg (by omega), if_pos (by omega), e1 k (by omega)]
      simp only [Option.bind_some]
      rw [if_neg ht]
      rfl
theorem refAll_ev (x0 : ByteArray) (hx : x0.size ≤ 1000000000) : ∀ (n : Nat) (s : ByteArray) (l : List ByteArray), s.size ≤ n → s.size ≤ x0.size → l.length + n < 8796093022208 →
    Ev (fun k => sextonref03_All.l0 k x0 l s) (l ++ (allF n s).1, (x0.size : Int) - ((allF n s).2.size : Int)) := by
  intro n
  induction n with
  | zero =>
    intro s l hs hs0 hl
    refine Ev.step (f := fun k => (sextonref03_Get.f k s).bind fun bt305 => (if bt305.2.2 = 0 then (if l.length < 8796093022208 then (sextonref03_All.l0 k x0 (l ++ [bt305.1]) bt305.2.1) else (none)) else (some (l, wrap64 ((x0.size : Int) - (s.size : Int)))))) (fun k => by simp only [sextonref03_All.l0]) ?_
    refine Ev.bind (refGet s) ?_
    have hn : getFrame s = noFrame := by unfold getFrame; rw [if_pos (by omega)]
    rw [hn, wrap_id (by omega) (by omega)]
    simp only [noFrame, allF, List.append_nil]
    exact Ev.now _
  | succ n ih =>
    intro s l hs hs0 hl
    refine Ev.step (f := fun k => (sextonref03_Get.f k s).bind fun bt305 => (if bt305.2.2 = 0 then (if l.length < 8796093022208 then (sextonref03_All.l0 k x0 (l ++ [bt305.1]) bt305.2.1) else (none)) else (some (l, wrap64 ((x0.size : Int) - (s.size : Int)))))) (fun k => by simp only [sextonref03_All.l0]) ?_
    refine Ev.bind (refGet s) ?_
    by_cases h : (getFrame s).2.2 = 0
    · have hless := getFrame_less h
      have := ih (getFrame s).2.1 (l ++ [(getFrame s).1]) (by omega) (by omega) (by simp; omega)
      simp only [allF]
      rw [if_pos h]
      refine Ev.congr (f := fun k => sextonref03_All.l0 k x0 (l ++ [(getFrame s).1]) (getFrame s).2.1) (fun k => by rw [if_pos h, if_pos (by omega)]) ?_
      simpa using this
    · simp only [allF]
      rw [if_neg h]
      refine Ev.congr (f := fun _ => some (l, (x0.size : Int) - (s.size : Int))) (fun k => by rw [if_neg h, wrap_id (by omega) (by omega)]) ?_
      simpa using Ev.now _
theorem refAll_of (s : ByteArray) (hs : s.size ≤ 1000000000) : Ev (fun k => sextonref03_All.f k s) ((allF s.size s).1, (s.size : Int) - ((allF s.size s).2.size : Int)) := by
  have := refAll_ev s hs s.size s [] (Nat.le_refl _) (Nat.le_refl _) (by simp; omega)
  simpa [sextonref03_All.f] using this

theorem CrcGets (a0 : ByteArray) (h0 : OkStr a0) :
    ∃ k, sextonlaw03_CrcGets.f k a0 = some true := by
  clear h0
  by_cases h : (a0.size : Int) > 400
  · exact ⟨0, by unfold sextonlaw03_CrcGets.f; rw [if_pos h]⟩
  · obtain ⟨K1, e1⟩ := get_ev a0
    obtain ⟨K2, e2⟩ := refGet a0
    obtain ⟨K3, e3⟩ := all_of a0 (by omega)
    obtain ⟨K4, e4⟩ := refAll_of a0 (by omega)
    obtain ⟨K5, e5⟩ := summed_ev
    have hlen : (allF a0.size a0).1.length ≤ a0.size := by
      have : ∀ (n : Nat) (s : ByteArray), (allF n s).1.length ≤ n := by
        intro n
        induction n with
        | zero => intro s; exact Nat.le_refl _
        | succ n ih =>
          intro s
          simp only [allF]
          split
          · have := ih (getFrame s).2.1; simp; exact this
          · exact Nat.zero_le _
      exact this _ _
    obtain ⟨K6, e6⟩ := refTexts (allF a0.size a0).1 (allF a0.size a0).1 (by omega)
    simp only at e1 e2 e3 e4 e5 e6
    refine ⟨K1 + K2 + K3 + K4 + K5 + K6, ?_⟩
    unfold sextonlaw03_CrcGets.f
    rw [if_neg h, e1 _ (by omega), e2 _ (by omega), e3 _ (by omega), e4 _ (by omega), e5 _ (by omega)]
    simp only [Option.bind_some, if_true]
    rw [e6 _ (by omega)]
    simp
end Go.Proofs.Ytnkakhcombmdoaa.Pure
