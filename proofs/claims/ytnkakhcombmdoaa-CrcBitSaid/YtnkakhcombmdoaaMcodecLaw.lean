/-
  Plain laws on numbers', texts' and rows' bytes: what is laid is read, what is read is laid. No program in sight.
-/
import Derived.Test.YtnkakhcombmdoaaMcodecRow
namespace Go.Proofs.CodecPlain

theorem ba_ext {a b : ByteArray} (h : a.data.toList = b.data.toList) : a = b := by
  cases a; cases b
  rename_i x y
  have : x = y := by cases x; cases y; simpa using h
  rw [this]
theorem ext_list (s : ByteArray) (a b : Nat) : (s.extract a b).data.toList = (s.data.toList.drop a).take (b - a) := by
  rw [ByteArray.data_extract, Array.toList_extract]
theorem app_list (a b : ByteArray) : (a ++ b).data.toList = a.data.toList ++ b.data.toList := by
  rw [ByteArray.data_append, Array.toList_append]
theorem len_list (a : ByteArray) : a.data.toList.length = a.size := by rw [Array.length_toList]; rfl

/-! ### a number's bytes -/
theorem nbytes_zero : nbytes 0 = [] := by decide
theorem tops4 (x : Int) : tops x 4 = [nbyte x 3, nbyte x 2, nbyte x 1, nbyte x 0] := rfl
theorem nbytes_rec (x : Int) (h0 : 0 < x) (h1 : x < 4294967296) : nbytes x = nbytes (x / 256) ++ [x % 256] := by
  have e3 : nbyte (x / 256) 3 = 0 := by unfold nbyte; omega
  have e2 : nbyte (x / 256) 2 = nbyte x 3 := by unfold nbyte; omega
  have e1 : nbyte (x / 256) 1 = nbyte x 2 := by unfold nbyte; omega
  have e0 : nbyte (x / 256) 0 = nbyte x 1 := by unfold nbyte; omega
  have e : nbyte x 0 = x % 256 := by unfold nbyte; omega
  have hl : nbytes (x / 256) = lead [nbyte x 3, nbyte x 2, nbyte x 1] := by
    unfold nbytes; rw [tops4, e3, e2, e1, e0]; simp [lead]
  have hr : nbytes x = lead ([nbyte x 3, nbyte x 2, nbyte x 1] ++ [x % 256]) := by
    unfold nbytes; rw [tops4, e]; rfl
  rw [hr, hl]
  by_cases hn : lead [nbyte x 3, nbyte x 2, nbyte x 1] = []
  · rw [lead_snoc_nil hn, hn]
    have : x % 256 ≠ 0 := by
      have z3 : nbyte x 3 = 0 := by
        by_cases z : nbyte x 3 = 0
        · exact z
        · simp [lead, z] at hn
      have z2 : nbyte x 2 = 0 := by
        by_cases z : nbyte x 2 = 0
        · exact z
        · simp [lead, z, z3] at hn
      have z1 : nbyte x 1 = 0 := by
        by_cases z : nbyte x 1 = 0
        · exact z
        · simp [lead, z, z2, z3] at hn
      unfold nbyte at z1 z2 z3
      omega
    rw [if_neg this]; rfl
  · rw [lead_snoc hn]
/-- A byte's number as a byte. -/
def u8 (n : Int) : UInt8 := UInt8.ofNat n.toNat
theorem u8_toNat {n : Int} (h0 : 0 ≤ n) (h1 : n < 256) : ((u8 n).toNat : Int) = n := by
  have : (u8 n).toNat = n.toNat % 256 := by simp [u8, UInt8.toNat_ofNat']
  omega
theorem u8_of (b : UInt8) : u8 (b.toNat : Int) = b := by
  apply UInt8.toNat_inj.1
  have h := b.toNat_lt
  have := u8_toNat (n := (b.toNat : Int)) (by omega) (by omega)
  omega
theorem nat_ind {P : Int → Prop} (h : ∀ x, 0 ≤ x → (∀ y, 0 ≤ y → y < x → P y) → P x) : ∀ x, 0 ≤ x → P x := by
  have key : ∀ n : Nat, ∀ x : Int, 0 ≤ x → x.toNat < n → P x := by
    intro n
    induction n with
    | zero => intro x _ hx; omega
    | succ n ih => intro x h0 hx; exact h x h0 (fun y hy hlt => ih y hy (by omega))
  exact fun x hx => key (x.toNat + 1) x hx (by omega)
theorem accB_nbytes : ∀ x : Int, 0 ≤ x → x < 4294967296 → accB ((nbytes x).map u8) = x := by
  apply nat_ind
  intro x h0 ih h1
  by_cases hz : x = 0
  · subst hz; rw [nbytes_zero]; rfl
  · rw [nbytes_rec x (by omega) h1, List.map_append, List.map_singleton, accB_snoc, ih (x / 256) (by omega) (by omega) (by omega), u8_toNat (by omega) (by omega)]
    omega
theorem nbytes_head : ∀ x : Int, 0 ≤ x → x < 4294967296 → ∀ b l, nbytes x = b :: l → 0 < b ∧ b < 256 := by
  apply nat_ind
  intro x h0 ih h1 b l hb
  by_cases hz : x = 0
  · subst hz; rw [nbytes_zero] at hb; cases hb
  · rw [nbytes_rec x (by omega) h1] at hb
    cases hc : nbytes (x / 256) with
    | nil =>
      rw [hc] at hb
      simp at hb
      by_cases hy : x / 256 = 0
      · omega
      · exfalso
        rw [nbytes_rec (x / 256) (by omega) (by omega)] at hc
        simp at hc
    | cons c m =>
      rw [hc] at hb
      simp at hb
      have := ih (x / 256) (by omega) (by omega) (by omega) c m hc
      omega
theorem nbytes_pos (x : Int) (h0 : 0 ≤ x) (h1 : x < 4294967296) (h : nbytes x = []) : x = 0 := by
  by_cases hz : x = 0
  · exact hz
  · rw [nbytes_rec x (by omega) h1] at h; simp at h
theorem nbytes_accB : ∀ (n : Nat) (l : List UInt8), l.length = n → n ≤ 4 → (∀ b m, l = b :: m → b.toNat ≠ 0) → (nbytes (accB l)).map u8 = l ∧ (l ≠ [] → 0 < accB l) := by
  intro n
  induction n with
  | zero => intro l hl _ _; cases l with | nil => exact ⟨rfl, fun h => absurd rfl h⟩ | cons _ _ => simp at hl
  | succ n ih =>
    intro l hl h4 hh
    have hne : l ≠ [] := by intro e; rw [e] at hl; simp at hl
    have hsp := List.dropLast_concat_getLast hne
    generalize l.dropLast = m at hsp
    generalize l.getLast hne = b at hsp
    subst hsp
    have hm : m.length = n := by simp at hl; exact hl
    have hb := b.toNat_lt
    have hbd := accB_bd (m ++ [b])
    have hbm := accB_bd m
    have h256 : accB (m ++ [b]) < 4294967296 := Int.lt_of_lt_of_le hbd.2 (by
      rw [hl]
      match n, h4 with
      | 0, _ => decide
      | 1, _ => decide
      | 2, _ => decide
      | 3, _ => decide)
    have hsn := accB_snoc m b
    have ih' := ih m hm (by omega) (fun c k e => hh c (k ++ [b]) (by rw [e]; rfl))
    have hpos : 0 < accB (m ++ [b]) := by
      cases m with
      | nil => have := hh b [] rfl; rw [hsn]; simp [accB]; omega
      | cons c k => have := ih'.2 (by simp); omega
    refine ⟨?_, fun _ => hpos⟩
    rw [nbytes_rec _ hpos h256]
    have e1 : accB (m ++ [b]) / 256 = accB m := by omega
    have e2 : accB (m ++ [b]) % 256 = (b.toNat : Int) := by omega
    rw [e1, e2, List.map_append, ih'.1, List.map_singleton, u8_of]

theorem numStr_list (n : Int) : (numStr n).data.toList = u8 ((nbytes n).length : Int) :: (nbytes n).map u8 := by
  simp [numStr, Go.strOfNums, u8]
theorem numStr_sz (n : Int) : (numStr n).size = 1 + (nbytes n).length := by rw [← len_list, numStr_list]; simp; omega
theorem hd_list (s : ByteArray) : hd s = match s.data.toList with | [] => 0 | b :: _ => b.toNat := by
  cases s with | mk d => cases d with | mk l =>
    cases l with
    | nil => unfold hd; rw [dif_neg (by show ¬ 0 < 0; omega)]
    | cons b l => unfold hd; rw [dif_pos (by show 0 < l.length + 1; omega)]; rfl

/-- What is laid is read. -/
theorem getNum_put (n : Int) (h0 : 0 ≤ n) (h1 : n ≤ 4294967295) (rest : ByteArray) : getNum (numStr n ++ rest) = (n, rest, true) := by
  have hl := nbytes_length n
  have hlist : (numStr n ++ rest).data.toList = u8 ((nbytes n).length : Int) :: ((nbytes n).map u8 ++ rest.data.toList) := by rw [app_list, numStr_list]; rfl
  have hhd : hd (numStr n ++ rest) = (nbytes n).length := by
    rw [hd_list, hlist]
    have := u8_toNat (n := ((nbytes n).length : Int)) (by omega) (by omega)
    show (u8 _).toNat = _
    omega
  have hsz : (numStr n ++ rest).size = 1 + (nbytes n).length + rest.size := by rw [size_append, numStr_sz]
  have hb : ((numStr n ++ rest).extract 1 (1 + (nbytes n).length)).data.toList = (nbytes n).map u8 := by
    rw [ext_list, hlist, Nat.add_sub_cancel_left, List.drop_one, List.tail_cons]
    rw [List.take_append_of_le_length (by simp)]
    rw [List.take_of_length_le (by simp)]
  have hr : (numStr n ++ rest).extract (1 + (nbytes n).length) (numStr n ++ rest).size = rest := by
    apply ba_ext
    rw [ext_list, hlist, Nat.add_comm 1, List.drop_succ_cons, List.drop_append_of_le_length (by simp), List.drop_of_length_le (by simp), List.nil_append]
    rw [List.take_of_length_le]
    rw [len_list]; omega
  unfold getNum
  rw [hhd, if_neg (by omega), if_neg, hb, hr, accB_nbytes n h0 (by omega)]
  rintro ⟨hne, hz⟩
  rw [hd_list, hb] at hz
  cases hc : nbytes n with
  | nil => rw [hc] at hne; simp at hne
  | cons b l =>
    rw [hc] at hz
    have := nbytes_head n h0 (by omega) b l hc
    have h2 := u8_toNat (n := b) (by omega) this.2
    simp at hz
    omega
/-- What is read is laid. -/
theorem getNum_got {s : ByteArray} {n : Int} {rest : ByteArray} (h : getNum s = (n, rest, true)) : 0 ≤ n ∧ n ≤ 4294967295 ∧ s = numStr n ++ rest := by
  have hbd := getNum_bd s
  rw [h] at hbd
  refine ⟨hbd.1, by have := hbd.2; simp only at this; omega, ?_⟩
  unfold getNum at h
  split at h
  · simp at h
  · rename_i h1
    split at h
    · simp at h
    · rename_i h2
      simp only [Prod.mk.injEq, and_true] at h
      obtain ⟨rfl, rfl⟩ := h
      have hbl : ((s.extract 1 (1 + hd s)).data.toList).length = hd s := by rw [len_list, ByteArray.size_extract]; omega
      have hk := nbytes_accB (hd s) _ hbl (by omega) (by
        intro b m e hz
        apply h2
        refine ⟨fun h0 => by rw [e] at hbl; simp at hbl; omega, ?_⟩
        rw [hd_list, e]; exact hz)
      apply ba_ext
      have hlen : (nbytes (accB (s.extract 1 (1 + hd s)).data.toList)).length = hd s := by
        have := congrArg List.length hk.1
        rw [List.length_map, hbl] at this
        exact this
      rw [app_list, numStr_list, hk.1, hlen, ext_list, ext_list]
      cases hs : s.data.toList with
      | nil => have := len_list s; rw [hs] at this; simp at this; omega
      | cons b l =>
        have hb : hd s = b.toNat := by rw [hd_list, hs]
        have hsz : s.size = l.length + 1 := by rw [← len_list, hs]; rfl
        rw [hb, u8_of, Nat.add_comm 1, Nat.add_sub_cancel, List.drop_one, List.tail_cons, List.drop_succ_cons, List.cons_append]
        rw [List.take_of_length_le (l := l.drop b.toNat) (by rw [List.length_drop]; omega), List.take_append_drop]

/-! ### texts -/
theorem getText_put (t : ByteArray) (h : t.size ≤ 4000) (rest : ByteArray) : getText (textStr t ++ rest) = (t, rest, true) := by
  have hg : getNum (textStr t ++ rest) = ((t.size : Int), t ++ rest, true) := by
    unfold textStr
    rw [ByteArray.append_assoc]
    exact getNum_put _ (by omega) (by omega) _
  unfold getText
  rw [hg]
  simp only
  rw [if_pos ⟨trivial, by omega, by rw [size_append]; omega⟩]
  have e1 : (t ++ rest).extract 0 (t.size : Int).toNat = t := by
    apply ba_ext; rw [ext_list, app_list, Int.toNat_natCast, List.drop_zero, Nat.sub_zero, List.take_append_of_le_length (by rw [len_list]; exact Nat.le_refl _), List.take_of_length_le (by rw [len_list]; exact Nat.le_refl _)]
  have e2 : (t ++ rest).extract (t.size : Int).toNat (t ++ rest).size = rest := by
    apply ba_ext
    rw [ext_list, app_list, Int.toNat_natCast, List.drop_append_of_le_length (by rw [len_list]; exact Nat.le_refl _), List.drop_of_length_le (by rw [len_list]; exact Nat.le_refl _), List.nil_append, size_append, Nat.add_sub_cancel_left]
    rw [List.take_of_length_le (by rw [len_list]; exact Nat.le_refl _)]
  rw [e1, e2]
theorem getText_got {s t rest : ByteArray} (h : getText s = (t, rest, true)) : t.size ≤ 4000 ∧ s = textStr t ++ rest := by
  unfold getText at h
  split at h
  · rename_i hc
    obtain ⟨n, r, ok, hn⟩ : ∃ n r ok, getNum s = (n, r, ok) := ⟨_, _, _, rfl⟩
    rw [hn] at h hc
    simp only at h hc
    obtain ⟨rfl, hc1, hc2⟩ := hc
    obtain ⟨h0, h1, hs⟩ := getNum_got hn
    simp only [Prod.mk.injEq, and_true] at h
    obtain ⟨rfl, rfl⟩ := h
    have hsz : ((r.extract 0 n.toNat).size : Int) = n := by rw [ByteArray.size_extract]; omega
    refine ⟨by omega, ?_⟩
    unfold textStr
    rw [hsz, ByteArray.append_assoc, hs]
    congr 1
    apply ba_ext
    rw [app_list, ext_list, ext_list, List.drop_zero, Nat.sub_zero]
    rw [List.take_of_length_le (l := r.data.toList.drop n.toNat) (by rw [List.length_drop, len_list]; omega), List.take_append_drop]
  · simp at h
theorem getText_no {s : ByteArray} (h : (getText s).2.2 = false) : getText s = (⟨#[]⟩, ⟨#[]⟩, false) := by
  unfold getText at h ⊢
  split
  · rename_i hc; rw [if_pos hc] at h; simp at h
  · rfl
theorem getNum_no' {s : ByteArray} (h : (getNum s).2.2 = false) : getNum s = (0, ⟨#[]⟩, false) := by
  unfold getNum at h ⊢
  split
  · rfl
  · split
    · rfl
    · rename_i h1 h2; rw [if_neg h1, if_neg h2] at h; simp at h

/-! ### rows -/
theorem getTexts_put : ∀ (l : List ByteArray) (_ : ∀ t ∈ l, t.size ≤ 4000) (rest : ByteArray), getTexts l.length (catStr (l.map textStr) ++ rest) = (l, rest, true)
  | [], _, rest => by
    have : (⟨#[]⟩ : ByteArray) ++ rest = rest := ba_ext (by rw [app_list]; rfl)
    simp [getTexts, catStr, this]
  | t :: l, h, rest => by
    have hg : getText (catStr ((t :: l).map textStr) ++ rest) = (t, catStr (l.map textStr) ++ rest, true) := by
      rw [List.map_cons, catStr, ByteArray.append_assoc]
      exact getText_put t (h t List.mem_cons_self) _
    have ih := getTexts_put l (fun x hx => h x (List.mem_cons_of_mem _ hx)) rest
    rw [List.length_cons, getTexts, hg]
    simp [ih]
theorem getTexts_got : ∀ (n : Nat) (s : ByteArray) (l : List ByteArray) (rest : ByteArray), getTexts n s = (l, rest, true) → l.length = n ∧ (∀ t ∈ l, t.size ≤ 4000) ∧ s = catStr (l.map textStr) ++ rest
  | 0, s, l, rest, h => by
    simp [getTexts] at h
    obtain ⟨rfl, rfl⟩ := h
    exact ⟨rfl, by simp, ba_ext (by rw [app_list]; rfl)⟩
  | n + 1, s, l, rest, h => by
    unfold getTexts at h
    obtain ⟨t, r, ok, ht⟩ : ∃ t r ok, getText s = (t, r, ok) := ⟨_, _, _, rfl⟩
    rw [ht] at h
    simp only at h
    split at h
    · rename_i hok
      subst hok
      obtain ⟨m, q, k, hm⟩ : ∃ m q k, getTexts n r = (m, q, k) := ⟨_, _, _, rfl⟩
      rw [hm] at h
      simp only at h
      split at h
      · rename_i hk
        subst hk
        simp only [Prod.mk.injEq, and_true] at h
        obtain ⟨rfl, rfl⟩ := h
        obtain ⟨h1, h2, h3⟩ := getTexts_got n r m q hm
        obtain ⟨h4, h5⟩ := getText_got ht
        refine ⟨by simp [h1], fun x hx => ?_, ?_⟩
        · rcases List.mem_cons.1 hx with rfl | hx
          · exact h4
          · exact h2 x hx
        · rw [List.map_cons, catStr, ByteArray.append_assoc, ← h3, h5]
      · simp at h
    · simp at h
theorem getRow_put (l : List ByteArray) (hl : l.length ≤ 1000) (h : ∀ t ∈ l, t.size ≤ 4000) (rest : ByteArray) : getRow (rowStr l ++ rest) = (l, rest, true) := by
  have hg : getNum (rowStr l ++ rest) = ((l.length : Int), catStr (l.map textStr) ++ rest, true) := by
    unfold rowStr
    rw [ByteArray.append_assoc]
    exact getNum_put _ (by omega) (by omega) _
  unfold getRow
  rw [hg]
  simp only
  rw [if_pos ⟨trivial, by omega⟩, Int.toNat_natCast]
  exact getTexts_put l h rest
theorem getRow_got {s : ByteArray} {l : List ByteArray} {rest : ByteArray} (h : getRow s = (l, rest, true)) : l.length ≤ 1000 ∧ (∀ t ∈ l, t.size ≤ 4000) ∧ s = rowStr l ++ rest := by
  unfold getRow at h
  split at h
  · rename_i hc
    obtain ⟨n, r, ok, hn⟩ : ∃ n r ok, getNum s = (n, r, ok) := ⟨_, _, _, rfl⟩
    rw [hn] at h hc
    simp only at h hc
    obtain ⟨rfl, hc1⟩ := hc
    obtain ⟨h0, h1, hs⟩ := getNum_got hn
    obtain ⟨h2, h3, h4⟩ := getTexts_got _ _ _ _ h
    refine ⟨by omega, h3, ?_⟩
    unfold rowStr
    rw [h2, ByteArray.append_assoc, ← h4, hs]
    congr 2
    omega
  · simp at h
theorem getTexts_no : ∀ (n : Nat) (s : ByteArray), (getTexts n s).2.2 = false → getTexts n s = ([], ⟨#[]⟩, false)
  | 0, s, h => by simp [getTexts] at h
  | n + 1, s, h => by
    unfold getTexts at h ⊢
    split
    · rename_i h1
      rw [if_pos h1] at h
      split
      · rename_i h2; rw [if_pos h2] at h; simp at h
      · rfl
    · rfl
theorem getRow_no {s : ByteArray} (h : (getRow s).2.2 = false) : getRow s = ([], ⟨#[]⟩, false) := by
  unfold getRow at h ⊢
  split
  · rename_i hc; rw [if_pos hc] at h; exact getTexts_no _ _ h
  · rfl

end Go.Proofs.CodecPlain
