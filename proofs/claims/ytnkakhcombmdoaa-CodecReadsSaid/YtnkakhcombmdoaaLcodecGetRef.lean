/-
  What the references of chapter 1 that read answer, told plainly.
-/
import Derived.Test.YtnkakhcombmdoaaLcodecRef
import Derived.Test.YtnkakhcombmdoaaLcodec
import Derived.Test.YtnkakhcombmdoaaFsextonref01GetNumber
import Derived.Test.YtnkakhcombmdoaaFsextonref01GetText
import Derived.Test.YtnkakhcombmdoaaFsextonref01GetRow
namespace Go.Proofs.Ytnkakhcombmdoaa.P
open Go.RowKit Go.Proofs.CodecPlain Go.Proofs.YtnkakhcombmdoaaW.PrintWords Go.Proofs.YtnkakhcombmdoaaW.PrintLast

theorem accB_bd4 (l : List UInt8) (h : l.length ≤ 4) : 0 ≤ accB l ∧ accB l < 4294967296 := by
  have hbd := accB_bd l
  refine ⟨hbd.1, Int.lt_of_lt_of_le hbd.2 ?_⟩
  match l.length, h with
  | 0, _ => decide
  | 1, _ => decide
  | 2, _ => decide
  | 3, _ => decide
  | 4, _ => decide
theorem bt_list (s : ByteArray) (i : Nat) (h : i < s.data.toList.length) : bt s (i : Int) = (s.data.toList[i].toNat : Int) := by
  have h' : i < s.size := by rw [len_list] at h; exact h
  unfold bt
  rw [dif_pos (by simpa using h')]
  rfl
theorem bt_hd (s : ByteArray) (h : 0 < s.size) : bt s 0 = (hd s : Int) := by
  unfold bt hd
  rw [dif_pos (by simpa using h), dif_pos h]
  rfl
theorem wrap_bt (s : ByteArray) (i : Int) : wrap64 (bt s i) = bt s i := by have := bt_range s i; exact wrap_id (by omega) (by omega)

/-- Whether a number's own text stands at the begin. -/
theorem getNum_by (s : ByteArray) (h0 : 0 < s.size) (h4 : hd s ≤ 4) (h5 : hd s < s.size) :
    getNum s = if numStr (accB (s.extract 1 (1 + hd s)).data.toList) = s.extract 0 (1 + hd s) then (accB (s.extract 1 (1 + hd s)).data.toList, s.extract (1 + hd s) s.size, true) else (0, ⟨#[]⟩, false) := by
  have hbl : ((s.extract 1 (1 + hd s)).data.toList).length = hd s := by rw [len_list, ByteArray.size_extract]; omega
  have hbd := accB_bd4 (s.extract 1 (1 + hd s)).data.toList (by omega)
  have hlt : accB (s.extract 1 (1 + hd s)).data.toList ≤ 4294967295 := by omega
  have hsplit : s = s.extract 0 (1 + hd s) ++ s.extract (1 + hd s) s.size := by
    apply ba_ext
    rw [app_list, ext_list, ext_list, List.drop_zero, Nat.sub_zero]
    rw [List.take_of_length_le (l := s.data.toList.drop (1 + hd s)) (by rw [List.length_drop, len_list]; omega), List.take_append_drop]
  by_cases he : numStr (accB (s.extract 1 (1 + hd s)).data.toList) = s.extract 0 (1 + hd s)
  · rw [if_pos he]
    have := getNum_put (accB (s.extract 1 (1 + hd s)).data.toList) hbd.1 hlt (s.extract (1 + hd s) s.size)
    rw [he, ← hsplit] at this
    exact this
  · rw [if_neg he]
    cases hok : (getNum s).2.2 with
    | false => exact getNum_no' hok
    | true =>
      exfalso
      obtain ⟨n, r, b, hn⟩ : ∃ n r b, getNum s = (n, r, b) := ⟨_, _, _, rfl⟩
      rw [hn] at hok
      simp only at hok
      subst hok
      obtain ⟨h1, h2, h3⟩ := getNum_got hn
      have hval : n = accB (s.extract 1 (1 + hd s)).data.toList := by
        rw [getNum_is s h0 h4 h5] at hn
        split at hn
        · simp at hn
        · simp only [Prod.mk.injEq, and_true] at hn; exact hn.1.symm
      have hhd : hd s = (nbytes n).length := by
        have hl := nbytes_length n
        conv => lhs; rw [h3]
        rw [hd_list, app_list, numStr_list]
        have := u8_toNat (n := ((nbytes n).length : Int)) (by omega) (by omega)
        show (u8 _).toNat = _
        omega
      apply he
      rw [← hval]
      apply ba_ext
      rw [ext_list, List.drop_zero, Nat.sub_zero, hhd]
      conv => rhs; rw [h3]
      rw [app_list, List.take_append_of_le_length (by rw [len_list, numStr_sz]; exact Nat.le_refl _), List.take_of_length_le (by rw [len_list, numStr_sz]; exact Nat.le_refl _)]

theorem refGet_l0 (s : ByteArray) (m : Nat) (h4 : m ≤ 4) (h5 : m < s.size) (d : Nat) : ∀ i : Nat, i + d = 1 + m → 1 ≤ i →
    Ev (fun k => sextonref01_GetNumber.l0 k s ((1 + m : Nat) : Int) (accB ((s.data.toList.drop 1).take (i - 1))) (i : Int))
      (if numStr (accB (s.extract 1 (1 + m)).data.toList) = s.extract 0 (1 + m) then (accB (s.extract 1 (1 + m)).data.toList, s.extract (1 + m) s.size, true) else (0, ⟨#[]⟩, false)) := by
  induction d with
  | zero =>
    intro i hi h1
    obtain rfl : i = 1 + m := by omega
    have hb : (s.data.toList.drop 1).take (1 + m - 1) = (s.extract 1 (1 + m)).data.toList := by rw [ext_list]
    rw [hb]
    have hbl : ((s.extract 1 (1 + m)).data.toList).length = m := by rw [len_list, ByteArray.size_extract]; omega
    have hbd := accB_bd4 (s.extract 1 (1 + m)).data.toList (by omega)
    have hlt : accB (s.extract 1 (1 + m)).data.toList ≤ 4294967295 := by omega
    generalize accB (s.extract 1 (1 + m)).data.toList = v at *
    have hn := refNumber v
    rw [if_pos ⟨hbd.1, hlt⟩] at hn
    refine Ev.step (f := fun k => (sextonref01_Number.f k v).bind fun bt186 => (if (0 : Int) ≤ ((1 + m : Nat) : Int) then (if ((1 + m : Nat) : Int) ≤ (s.size : Int) then (if bt186.1.toList = (s.extract 0 (1 + m)).toList then (some (v, s.extract (1 + m) s.size, true)) else (some (0, (⟨#[]⟩ : ByteArray), false))) else (none)) else (none))) (fun k => ?_) ?_
    · simp only [sextonref01_GetNumber.l0]
      rw [if_neg (by omega)]
      rfl
    · refine Ev.bind hn (Ev.congr (f := fun _ => some (if numStr v = s.extract 0 (1 + m) then (v, s.extract (1 + m) s.size, true) else (0, ⟨#[]⟩, false))) (fun k => ?_) (Ev.now _))
      simp only
      rw [if_pos (by omega), if_pos (by omega)]
      by_cases he : numStr v = s.extract 0 (1 + m)
      · rw [if_pos he, if_pos (by rw [he])]
      · rw [if_neg he, if_neg (fun h => he (toList_inj h))]
  | succ d ih =>
    intro i hi h1
    have hlt : i < s.size := by omega
    have hll : i < s.data.toList.length := by rw [len_list]; exact hlt
    have hn := ih (i + 1) (by omega) (by omega)
    have hacc : accB ((s.data.toList.drop 1).take (i + 1 - 1)) = 256 * accB ((s.data.toList.drop 1).take (i - 1)) + bt s (i : Int) := by
      have hl2 : i - 1 < (s.data.toList.drop 1).length := by rw [List.length_drop]; omega
      rw [bt_list s i hll, show i + 1 - 1 = (i - 1) + 1 by omega, List.take_succ_eq_append_getElem hl2, accB_snoc]
      have : (s.data.toList.drop 1)[i - 1] = s.data.toList[i] := by
        rw [List.getElem_drop]
        congr 1
        omega
      rw [this]
      omega
    have hbd := accB_bd4 ((s.data.toList.drop 1).take (i - 1)) (by rw [List.length_take]; omega)
    have hbr := bt_range s (i : Int)
    refine Ev.step (f := fun k => sextonref01_GetNumber.l0 k s ((1 + m : Nat) : Int) (accB ((s.data.toList.drop 1).take (i + 1 - 1))) ((i + 1 : Nat) : Int)) (fun k => ?_) hn
    simp only [sextonref01_GetNumber.l0]
    rw [if_pos (by omega), if_pos (by omega), if_pos (by omega), wrap_bt, wrap_id (x := 256 * accB ((s.data.toList.drop 1).take (i - 1))) (by omega) (by omega), wrap_id (x := _ + bt s (i : Int)) (by omega) (by omega), wrap_id (x := (i : Int) + 1) (by omega) (by omega), hacc]
    rfl
theorem refGetNumber (s : ByteArray) : Ev (fun k => sextonref01_GetNumber.f k s) (getNum s) := by
  have hno : Ev (fun k => sextonref01_GetNumber.j0 k s true) (0, ⟨#[]⟩, false) :=
    Ev.step (f := fun _ => some (0, ⟨#[]⟩, false)) (fun k => by simp [sextonref01_GetNumber.j0]) (Ev.now _)
  by_cases h0 : s.size = 0
  · rw [getNum_no (.inl h0)]
    exact Ev.congr (fun k => by unfold sextonref01_GetNumber.f; rw [if_pos (by omega)]) hno
  · have q : 0 < s.size := by omega
    have hb := bt_hd s q
    by_cases h4 : 4 < hd s
    · rw [getNum_no (.inr (.inl h4))]
      exact Ev.congr (fun k => by unfold sextonref01_GetNumber.f; rw [if_neg (by omega), if_pos (by omega), if_pos (by omega)]) hno
    · have hw : wrap64 (1 + wrap64 (bt s 0)) = ((1 + hd s : Nat) : Int) := by
        rw [wrap_bt, hb, wrap_id (by omega) (by omega)]; omega
      refine Ev.congr (f := fun k => sextonref01_GetNumber.j0 k s (decide ((s.size : Int) < ((1 + hd s : Nat) : Int)))) (fun k => by unfold sextonref01_GetNumber.f; rw [if_neg (by omega), if_pos (by omega), if_neg (by omega), hw]) ?_
      by_cases h5 : s.size ≤ hd s
      · rw [getNum_no (.inr (.inr h5)), decide_eq_true (by omega)]
        exact hno
      · rw [decide_eq_false (by omega), getNum_by s q (by omega) (by omega)]
        have := refGet_l0 s (hd s) (by omega) (by omega) (hd s) 1 (by omega) (by omega)
        refine Ev.step (f := fun k => sextonref01_GetNumber.l0 k s ((1 + hd s : Nat) : Int) 0 1) (fun k => ?_) this
        simp only [sextonref01_GetNumber.j0]
        rw [if_neg (by decide), if_pos (by omega), hw]
theorem refGetText (s : ByteArray) : Ev (fun k => sextonref01_GetText.f k s) (getText s) := by
  have hn := refGetNumber s
  refine Ev.congr (fun k => by unfold sextonref01_GetText.f; rfl) (Ev.bind hn (Ev.congr (f := fun _ => some (getText s)) (fun k => ?_) (Ev.now _)))
  have h := getText_f s
  unfold codec_GetText.f codec_GetNumber.f at h
  simp only [Option.bind_some] at h
  exact h
theorem refGetRow_l0 (N : Nat) (hN : N ≤ 1000) (d : Nat) : ∀ (i : Nat) (L : List ByteArray) (cur : ByteArray), i + d = N → L.length = i →
    Ev (fun k => sextonref01_GetRow.l0 k (N : Int) cur L (i : Int)) (withL L (getTexts d cur)) := by
  induction d with
  | zero =>
    intro i L cur hi hL
    refine Ev.step (f := fun _ => some (L, cur, true)) (fun k => by simp only [sextonref01_GetRow.l0]; rw [if_neg (by omega)]) ?_
    have : withL L (getTexts 0 cur) = (L, cur, true) := by simp [withL, getTexts]
    rw [this]
    exact Ev.now _
  | succ d ih =>
    intro i L cur hi hL
    have ht := refGetText cur
    refine Ev.step (f := fun k => (sextonref01_GetText.f k cur).bind fun bt194 => (if bt194.2.2 = true then (if L.length < 8796093022208 then (sextonref01_GetRow.l0 k (N : Int) bt194.2.1 (L ++ [bt194.1]) ((i + 1 : Nat) : Int)) else (none)) else (some (([] : List ByteArray), (⟨#[]⟩ : ByteArray), false)))) (fun k => ?_) ?_
    · simp only [sextonref01_GetRow.l0]
      rw [if_pos (by omega), wrap_id (by omega) (by omega)]
      rfl
    · cases hok : (getText cur).2.2 with
      | false =>
        rw [withL_stop L d cur hok]
        refine Ev.bind ht (Ev.congr (f := fun _ => some ([], ⟨#[]⟩, false)) (fun k => ?_) (Ev.now _))
        rw [if_neg (by rw [hok]; decide)]
      | true =>
        rw [withL_step L d cur hok]
        refine Ev.bind ht (Ev.congr (f := fun k => sextonref01_GetRow.l0 k (N : Int) (getText cur).2.1 (L ++ [(getText cur).1]) ((i + 1 : Nat) : Int)) (fun k => ?_) (ih (i + 1) _ _ (by omega) (by simp [hL])))
        rw [if_pos hok, if_pos (by omega)]
theorem refGetRow (s : ByteArray) : Ev (fun k => sextonref01_GetRow.f k s) (getRow s) := by
  have hn := refGetNumber s
  have hbd := getNum_bd s
  refine Ev.congr (fun k => by unfold sextonref01_GetRow.f; rfl) (Ev.bind hn ?_)
  unfold getRow
  have hno : Ev (fun k => sextonref01_GetRow.j0 k (getNum s).1 (getNum s).2.1 true) ([], ⟨#[]⟩, false) :=
    Ev.step (f := fun _ => some ([], ⟨#[]⟩, false)) (fun k => by simp [sextonref01_GetRow.j0]) (Ev.now _)
  cases hok : (getNum s).2.2 with
  | false =>
    rw [if_neg (by rintro ⟨h, _⟩; cases h)]
    exact Ev.congr (fun k => by rw [if_neg (by decide)]) hno
  | true =>
    by_cases hle : (getNum s).1 ≤ 1000
    · rw [if_pos ⟨rfl, hle⟩]
      have h := refGetRow_l0 (getNum s).1.toNat (by omega) (getNum s).1.toNat 0 [] (getNum s).2.1 (by omega) rfl
      rw [withL_nil] at h
      refine Ev.congr (f := fun k => sextonref01_GetRow.j0 k (getNum s).1 (getNum s).2.1 false) (fun k => by rw [if_pos rfl, decide_eq_false (by omega)]) ?_
      refine Ev.step (f := fun k => sextonref01_GetRow.l0 k (((getNum s).1.toNat : Nat) : Int) (getNum s).2.1 [] 0) (fun k => ?_) h
      simp only [sextonref01_GetRow.j0]
      rw [if_neg (by decide), Int.toNat_of_nonneg hbd.1]
    · rw [if_neg (by rintro ⟨_, h⟩; exact hle h)]
      exact Ev.congr (fun k => by rw [if_pos rfl, decide_eq_true (by omega)]) hno
end Go.Proofs.Ytnkakhcombmdoaa.P
