/-
  Texts of the claim MsgMakes, joined.
-/
import Derived.Laws.BytesArg
import Derived.OwnWalk
import Derived.StillTailTactics
import Derived.Test.YtfejidinfcmfjaaWMore
import Derived.Test.YtfejidinfcmfjaaPx0
import Derived.Lib.Strings
import Derived.Lib.Slices
import Derived.Lib.Walk
import Derived.Lib.Builder
import Derived.Lib.AppendStr
import Derived.Lib.UnsafeStr
import Derived.WalkKit
import Derived.Laws.Externs
import Derived.Laws.IdiomCopy
import Derived.Shelf.Strings.BuilderX
import Derived.Test.YtfejidinfcmfjaaShelf
import Derived.Test.YtfejidinfcmfjaaProg
import Derived.RangeFuncNested
import Derived.RangeFuncBound
import Derived.RangeFuncCalls
import Derived.RangeFuncLeaves
import Derived.RangeFuncBox
import Derived.Shelf.Abstract
import Derived.Shelf.RegionOpen
import Derived.OwnWalkIn
import Derived.TacticsInMore
import Derived.LoopNIn
import Derived.LoopIn
import Derived.Maps.AppendAt
import Derived.Outline
import Derived.Laws.OwnMore
import Derived.LoopTactic
import Derived.Test.YtfejidinfcmfjaaWWords
import Derived.IntWalk
import Derived.Deep.QuietTactic
import Derived.BigQuiet
import Derived.Laws.BitsLemmas
import Derived.Laws.Slices
/-
  Plain laws on a number's bytes, highest first, without the leading zeros: no program in sight.
-/
namespace Go.Proofs.CodecPlain

/-- A fact that the walk is not to see. -/
structure As (p : Prop) : Prop where mk :: (out : p)

/-- The byte of n at place k. -/
def nbyte (n : Int) (k : Nat) : Int := n / 256 ^ k % 256
/-- Without the zeros at its head. -/
def lead : List Int → List Int
  | [] => []
  | b :: l => if b = 0 then lead l else b :: l
/-- The first j of the four bytes, the highest first. -/
def tops (n : Int) : Nat → List Int
  | 0 => []
  | j + 1 => tops n j ++ [nbyte n (3 - j)]
/-- A number's bytes. -/
def nbytes (n : Int) : List Int := lead (tops n 4)

/-- A number's text: how many bytes, and the bytes. -/
def numStr (n : Int) : ByteArray := Go.strOfNums (((nbytes n).length : Int) :: nbytes n)

theorem lead_snoc_nil {l : List Int} (h : lead l = []) (b : Int) : lead (l ++ [b]) = if b = 0 then [] else [b] := by
  induction l with
  | nil => by_cases e : b = 0 <;> simp [lead, e]
  | cons c l ih =>
    unfold lead at h
    split at h
    · rename_i e; subst e; simp [lead, ih h]
    · cases h
theorem lead_snoc {l : List Int} (h : lead l ≠ []) (b : Int) : lead (l ++ [b]) = lead l ++ [b] := by
  induction l with
  | nil => exact absurd rfl h
  | cons c l ih =>
    by_cases e : c = 0
    · subst e
      have : lead l ≠ [] := by intro e'; exact h (by simp [lead, e'])
      simp [lead, ih this]
    · simp [lead, e]
theorem tops_length (n : Int) (j : Nat) : (tops n j).length = j := by
  induction j with
  | zero => rfl
  | succ j ih => simp [tops, ih]
theorem lead_length (l : List Int) : (lead l).length ≤ l.length := by
  induction l with
  | nil => simp [lead]
  | cons c l ih => unfold lead; split <;> simp <;> omega
theorem nbytes_length (n : Int) : (nbytes n).length ≤ 4 := by
  have := lead_length (tops n 4); rw [tops_length] at this; exact this
theorem nbyte_lt (n : Int) (k : Nat) : 0 ≤ nbyte n k ∧ nbyte n k < 256 := by unfold nbyte; omega
theorem numStr_size (n : Int) : 1 ≤ (numStr n).size ∧ (numStr n).size ≤ 5 := by
  have := nbytes_length n
  have h : (numStr n).size = (nbytes n).length + 1 := by simp [numStr, Go.strOfNums, ByteArray.size]
  omega
/-- A text's text. -/
def textStr (s : ByteArray) : ByteArray := numStr (s.size : Int) ++ s
/-- Texts one behind the other. -/
def catStr : List ByteArray → ByteArray
  | [] => ⟨#[]⟩
  | s :: l => s ++ catStr l
/-- A row's text. -/
def rowStr (l : List ByteArray) : ByteArray := numStr (l.length : Int) ++ catStr (l.map textStr)
theorem size_append (a b : ByteArray) : (a ++ b).size = a.size + b.size := ByteArray.size_append
theorem textStr_size (s : ByteArray) : (textStr s).size ≤ s.size + 5 := by
  have := numStr_size (s.size : Int); unfold textStr; rw [size_append]; omega
theorem catStr_append (a b : List ByteArray) : catStr (a ++ b) = catStr a ++ catStr b := by
  induction a with
  | nil => simp [catStr]; rfl
  | cons x a ih => simp [catStr, ih, ByteArray.append_assoc]
theorem catStr_size (l : List ByteArray) (h : ∀ s ∈ l, s.size ≤ 4000) : (catStr (l.map textStr)).size ≤ l.length * 4005 := by
  induction l with
  | nil => simp [catStr, ByteArray.size]
  | cons x l ih =>
    have h1 := ih (fun s hs => h s (List.mem_cons_of_mem _ hs))
    have h2 := textStr_size x
    have h3 := h x List.mem_cons_self
    simp only [List.map_cons, catStr, size_append, List.length_cons]
    omega
theorem row_next (l : List ByteArray) (k : Nat) (h : k < l.length) :
    (numStr l.length ++ catStr ((l.take k).map textStr)).data.toList ++ (textStr l[k]).data.toList = (numStr l.length ++ catStr ((l.take (k + 1)).map textStr)).data.toList := by
  rw [List.take_succ_eq_append_getElem h, List.map_append, catStr_append]
  simp [catStr]

end Go.Proofs.CodecPlain
/-
  Plain laws on reading a number's bytes: no program in sight.
-/
namespace Go.Proofs.CodecPlain

/-- The number that bytes say, the highest first. -/
def accB (l : List UInt8) : Int := l.foldl (fun a b => a * 256 + (b.toNat : Int)) 0
theorem accB_snoc (l : List UInt8) (b : UInt8) : accB (l ++ [b]) = accB l * 256 + (b.toNat : Int) := by simp [accB]
theorem accB_from (l : List UInt8) : ∀ a : Int, 0 ≤ a → 0 ≤ l.foldl (fun a b => a * 256 + (b.toNat : Int)) a ∧ l.foldl (fun a b => a * 256 + (b.toNat : Int)) a < (a + 1) * 256 ^ l.length := by
  induction l with
  | nil => intro a h; simp; omega
  | cons b l ih =>
    intro a h
    have hb := b.toNat_lt
    have h1 := ih (a * 256 + (b.toNat : Int)) (by omega)
    rw [List.foldl_cons, List.length_cons, Int.pow_succ]
    refine ⟨h1.1, Int.lt_of_lt_of_le h1.2 ?_⟩
    rw [Int.mul_comm (256 ^ l.length) 256, ← Int.mul_assoc]
    exact Int.mul_le_mul_of_nonneg_right (by omega) (Int.le_of_lt (Int.pow_pos (by omega)))
theorem accB_bd (l : List UInt8) : 0 ≤ accB l ∧ accB l < 256 ^ l.length := by
  have := accB_from l 0 (by omega)
  simpa [accB] using this

/-- The first byte of bytes. -/
def hd (s : ByteArray) : Nat := if h : 0 < s.size then (s[0]'h).toNat else 0

/-- What reads as a number at the begin of bytes: it, what stands behind, and whether there is one. -/
def getNum (s : ByteArray) : Int × ByteArray × Bool :=
  if s.size = 0 ∨ 4 < hd s ∨ s.size ≤ hd s then (0, ⟨#[]⟩, false)
  else if hd s ≠ 0 ∧ hd (s.extract 1 (1 + hd s)) = 0 then (0, ⟨#[]⟩, false)
  else (accB (s.extract 1 (1 + hd s)).data.toList, s.extract (1 + hd s) s.size, true)

end Go.Proofs.CodecPlain
/-
  Plain laws on reading texts and rows: no program in sight.
-/
namespace Go.Proofs.CodecPlain

/-- What reads as a text at the begin of bytes. -/
def getText (s : ByteArray) : ByteArray × ByteArray × Bool :=
  if (getNum s).2.2 = true ∧ (getNum s).1 ≤ 4000 ∧ (getNum s).1 ≤ ((getNum s).2.1.size : Int) then
    ((getNum s).2.1.extract 0 (getNum s).1.toNat, (getNum s).2.1.extract (getNum s).1.toNat (getNum s).2.1.size, true)
  else (⟨#[]⟩, ⟨#[]⟩, false)
/-- What reads as n texts, one behind the other. -/
def getTexts : Nat → ByteArray → List ByteArray × ByteArray × Bool
  | 0, s => ([], s, true)
  | n + 1, s => if (getText s).2.2 = true then
      (if (getTexts n (getText s).2.1).2.2 = true then ((getText s).1 :: (getTexts n (getText s).2.1).1, (getTexts n (getText s).2.1).2.1, true) else ([], ⟨#[]⟩, false))
    else ([], ⟨#[]⟩, false)
/-- What reads as a row at the begin of bytes. -/
def getRow (s : ByteArray) : List ByteArray × ByteArray × Bool :=
  if (getNum s).2.2 = true ∧ (getNum s).1 ≤ 1000 then getTexts (getNum s).1.toNat (getNum s).2.1 else ([], ⟨#[]⟩, false)
/-- What is told where some have been read. -/
def withL (l : List ByteArray) (r : List ByteArray × ByteArray × Bool) : List ByteArray × ByteArray × Bool := if r.2.2 = true then (l ++ r.1, r.2.1, true) else ([], ⟨#[]⟩, false)

theorem getNum_bd (s : ByteArray) : 0 ≤ (getNum s).1 ∧ (getNum s).1 < 4294967296 := by
  unfold getNum
  split
  · exact ⟨by decide, by decide⟩
  · split
    · exact ⟨by decide, by decide⟩
    · rename_i h _
      have h1 := accB_bd (s.extract 1 (1 + hd s)).data.toList
      have hl : (s.extract 1 (1 + hd s)).data.toList.length = hd s := by
        rw [Array.length_toList]
        show (s.extract 1 (1 + hd s)).size = _
        rw [ByteArray.size_extract]; omega
      rw [hl] at h1
      refine ⟨h1.1, Int.lt_of_lt_of_le h1.2 ?_⟩
      have : hd s ≤ 4 := by omega
      match hd s, this with
      | 0, _ => decide
      | 1, _ => decide
      | 2, _ => decide
      | 3, _ => decide
      | 4, _ => decide
theorem getTexts_len : ∀ (n : Nat) (s : ByteArray), (getTexts n s).2.2 = true → (getTexts n s).1.length = n
  | 0, s, _ => rfl
  | n + 1, s, h => by
    unfold getTexts at h ⊢
    split at h
    · rename_i h1
      rw [if_pos h1]
      split at h
      · rename_i h2
        rw [if_pos h2]
        simp [getTexts_len n _ h2]
      · cases h
    · cases h
theorem withL_stop (l : List ByteArray) (n : Nat) (s : ByteArray) (h : (getText s).2.2 = false) : withL l (getTexts (n + 1) s) = ([], ⟨#[]⟩, false) := by
  simp [getTexts, h, withL]
theorem withL_step (l : List ByteArray) (n : Nat) (s : ByteArray) (h : (getText s).2.2 = true) : withL l (getTexts (n + 1) s) = withL (l ++ [(getText s).1]) (getTexts n (getText s).2.1) := by
  by_cases h2 : (getTexts n (getText s).2.1).2.2 = true <;> simp [getTexts, h, withL, h2]
theorem withL_nil (n : Nat) (s : ByteArray) : withL [] (getTexts n s) = getTexts n s := by
  cases n with
  | zero => simp [withL, getTexts]
  | succ n =>
    unfold getTexts
    split
    · split <;> simp [withL]
    · simp [withL]

end Go.Proofs.CodecPlain
/-
  Plain laws on numbers', texts' and rows' bytes: what is laid is read, what is read is laid. No program in sight.
-/
namespace Go.Proofs.CodecPlain

theorem ba_ext {a b : ByteArray} (h : a.data.toList = b.data.toList) : a = b := by
  cases a; cases b
  rename_i x y
  have : x = y := by cases x; cases y; simpa using h
  rw [this]
theorem ext_list (s : ByteArray) (a b : Nat) : (s.extract a b).data.toList = (s.data.toList.drop a).take (b - a) := by
  rw [ByteArray.data_extract, Array.toList_extract]
theorem app_list (a b : ByteArray) : (a ++ b).data.toList = a.data.toList ++ b.data.toList := by
  rw [ByteArray.data_append, Array.toList_append]
theorem len_list (a : ByteArray) : a.data.toList.length = a.size := by rw [Array.length_toList]; rfl

/-! ### a number's bytes -/
theorem nbytes_zero : nbytes 0 = [] := by decide
theorem tops4 (x : Int) : tops x 4 = [nbyte x 3, nbyte x 2, nbyte x 1, nbyte x 0] := rfl
theorem nbytes_rec (x : Int) (h0 : 0 < x) (h1 : x < 4294967296) : nbytes x = nbytes (x / 256) ++ [x % 256] := by
  have e3 : nbyte (x / 256) 3 = 0 := by unfold nbyte; omega
  have e2 : nbyte (x / 256) 2 = nbyte x 3 := by unfold nbyte; omega
  have e1 : nbyte (x / 256) 1 = nbyte x 2 := by unfold nbyte; omega
  have e0 : nbyte (x / 256) 0 = nbyte x 1 := by unfold nbyte; omega
  have e : nbyte x 0 = x % 256 := by unfold nbyte; omega
  have hl : nbytes (x / 256) = lead [nbyte x 3, nbyte x 2, nbyte x 1] := by
    unfold nbytes; rw [tops4, e3, e2, e1, e0]; simp [lead]
  have hr : nbytes x = lead ([nbyte x 3, nbyte x 2, nbyte x 1] ++ [x % 256]) := by
    unfold nbytes; rw [tops4, e]; rfl
  rw [hr, hl]
  by_cases hn : lead [nbyte x 3, nbyte x 2, nbyte x 1] = []
  · rw [lead_snoc_nil hn, hn]
    have : x % 256 ≠ 0 := by
      have z3 : nbyte x 3 = 0 := by
        by_cases z : nbyte x 3 = 0
        · exact z
        · simp [lead, z] at hn
      have z2 : nbyte x 2 = 0 := by
        by_cases z : nbyte x 2 = 0
        · exact z
        · simp [lead, z, z3] at hn
      have z1 : nbyte x 1 = 0 := by
        by_cases z : nbyte x 1 = 0
        · exact z
        · simp [lead, z, z2, z3] at hn
      unfold nbyte at z1 z2 z3
      omega
    rw [if_neg this]; rfl
  · rw [lead_snoc hn]
/-- A byte's number as a byte. -/
def u8 (n : Int) : UInt8 := UInt8.ofNat n.toNat
theorem u8_toNat {n : Int} (h0 : 0 ≤ n) (h1 : n < 256) : ((u8 n).toNat : Int) = n := by
  have : (u8 n).toNat = n.toNat % 256 := by simp [u8, UInt8.toNat_ofNat']
  omega
theorem u8_of (b : UInt8) : u8 (b.toNat : Int) = b := by
  apply UInt8.toNat_inj.1
  have h := b.toNat_lt
  have := u8_toNat (n := (b.toNat : Int)) (by omega) (by omega)
  omega
theorem nat_ind {P : Int → Prop} (h : ∀ x, 0 ≤ x → (∀ y, 0 ≤ y → y < x → P y) → P x) : ∀ x, 0 ≤ x → P x := by
  have key : ∀ n : Nat, ∀ x : Int, 0 ≤ x → x.toNat < n → P x := by
    intro n
    induction n with
    | zero => intro x _ hx; omega
    | succ n ih => intro x h0 hx; exact h x h0 (fun y hy hlt => ih y hy (by omega))
  exact fun x hx => key (x.toNat + 1) x hx (by omega)
theorem accB_nbytes : ∀ x : Int, 0 ≤ x → x < 4294967296 → accB ((nbytes x).map u8) = x := by
  apply nat_ind
  intro x h0 ih h1
  by_cases hz : x = 0
  · subst hz; rw [nbytes_zero]; rfl
  · rw [nbytes_rec x (by omega) h1, List.map_append, List.map_singleton, accB_snoc, ih (x / 256) (by omega) (by omega) (by omega), u8_toNat (by omega) (by omega)]
    omega
theorem nbytes_head : ∀ x : Int, 0 ≤ x → x < 4294967296 → ∀ b l, nbytes x = b :: l → 0 < b ∧ b < 256 := by
  apply nat_ind
  intro x h0 ih h1 b l hb
  by_cases hz : x = 0
  · subst hz; rw [nbytes_zero] at hb; cases hb
  · rw [nbytes_rec x (by omega) h1] at hb
    cases hc : nbytes (x / 256) with
    | nil =>
      rw [hc] at hb
      simp at hb
      by_cases hy : x / 256 = 0
      · omega
      · exfalso
        rw [nbytes_rec (x / 256) (by omega) (by omega)] at hc
        simp at hc
    | cons c m =>
      rw [hc] at hb
      simp at hb
      have := ih (x / 256) (by omega) (by omega) (by omega) c m hc
      omega
theorem nbytes_pos (x : Int) (h0 : 0 ≤ x) (h1 : x < 4294967296) (h : nbytes x = []) : x = 0 := by
  by_cases hz : x = 0
  · exact hz
  · rw [nbytes_rec x (by omega) h1] at h; simp at h
theorem nbytes_accB : ∀ (n : Nat) (l : List UInt8), l.length = n → n ≤ 4 → (∀ b m, l = b :: m → b.toNat ≠ 0) → (nbytes (accB l)).map u8 = l ∧ (l ≠ [] → 0 < accB l) := by
  intro n
  induction n with
  | zero => intro l hl _ _; cases l with | nil => exact ⟨rfl, fun h => absurd rfl h⟩ | cons _ _ => simp at hl
  | succ n ih =>
    intro l hl h4 hh
    have hne : l ≠ [] := by intro e; rw [e] at hl; simp at hl
    have hsp := List.dropLast_concat_getLast hne
    generalize l.dropLast = m at hsp
    generalize l.getLast hne = b at hsp
    subst hsp
    have hm : m.length = n := by simp at hl; exact hl
    have hb := b.toNat_lt
    have hbd := accB_bd (m ++ [b])
    have hbm := accB_bd m
    have h256 : accB (m ++ [b]) < 4294967296 := Int.lt_of_lt_of_le hbd.2 (by
      rw [hl]
      match n, h4 with
      | 0, _ => decide
      | 1, _ => decide
      | 2, _ => decide
      | 3, _ => decide)
    have hsn := accB_snoc m b
    have ih' := ih m hm (by omega) (fun c k e => hh c (k ++ [b]) (by rw [e]; rfl))
    have hpos : 0 < accB (m ++ [b]) := by
      cases m with
      | nil => have := hh b [] rfl; rw [hsn]; simp [accB]; omega
      | cons c k => have := ih'.2 (by simp); omega
    refine ⟨?_, fun _ => hpos⟩
    rw [nbytes_rec _ hpos h256]
    have e1 : accB (m ++ [b]) / 256 = accB m := by omega
    have e2 : accB (m ++ [b]) % 256 = (b.toNat : Int) := by omega
    rw [e1, e2, List.map_append, ih'.1, List.map_singleton, u8_of]

theorem numStr_list (n : Int) : (numStr n).data.toList = u8 ((nbytes n).length : Int) :: (nbytes n).map u8 := by
  simp [numStr, Go.strOfNums, u8]
theorem numStr_sz (n : Int) : (numStr n).size = 1 + (nbytes n).length := by rw [← len_list, numStr_list]; simp; omega
theorem hd_list (s : ByteArray) : hd s = match s.data.toList with | [] => 0 | b :: _ => b.toNat := by
  cases s with | mk d => cases d with | mk l =>
    cases l with
    | nil => unfold hd; rw [dif_neg (by show ¬ 0 < 0; omega)]
    | cons b l => unfold hd; rw [dif_pos (by show 0 < l.length + 1; omega)]; rfl

/-- What is laid is read. -/
theorem getNum_put (n : Int) (h0 : 0 ≤ n) (h1 : n ≤ 4294967295) (rest : ByteArray) : getNum (numStr n ++ rest) = (n, rest, true) := by
  have hl := nbytes_length n
  have hlist : (numStr n ++ rest).data.toList = u8 ((nbytes n).length : Int) :: ((nbytes n).map u8 ++ rest.data.toList) := by rw [app_list, numStr_list]; rfl
  have hhd : hd (numStr n ++ rest) = (nbytes n).length := by
    rw [hd_list, hlist]
    have := u8_toNat (n := ((nbytes n).length : Int)) (by omega) (by omega)
    show (u8 _).toNat = _
    omega
  have hsz : (numStr n ++ rest).size = 1 + (nbytes n).length + rest.size := by rw [size_append, numStr_sz]
  have hb : ((numStr n ++ rest).extract 1 (1 + (nbytes n).length)).data.toList = (nbytes n).map u8 := by
    rw [ext_list, hlist, Nat.add_sub_cancel_left, List.drop_one, List.tail_cons]
    rw [List.take_append_of_le_length (by simp)]
    rw [List.take_of_length_le (by simp)]
  have hr : (numStr n ++ rest).extract (1 + (nbytes n).length) (numStr n ++ rest).size = rest := by
    apply ba_ext
    rw [ext_list, hlist, Nat.add_comm 1, List.drop_succ_cons, List.drop_append_of_le_length (by simp), List.drop_of_length_le (by simp), List.nil_append]
    rw [List.take_of_length_le]
    rw [len_list]; omega
  unfold getNum
  rw [hhd, if_neg (by omega), if_neg, hb, hr, accB_nbytes n h0 (by omega)]
  rintro ⟨hne, hz⟩
  rw [hd_list, hb] at hz
  cases hc : nbytes n with
  | nil => rw [hc] at hne; simp at hne
  | cons b l =>
    rw [hc] at hz
    have := nbytes_head n h0 (by omega) b l hc
    have h2 := u8_toNat (n := b) (by omega) this.2
    simp at hz
    omega
/-- What is read is laid. -/
theorem getNum_got {s : ByteArray} {n : Int} {rest : ByteArray} (h : getNum s = (n, rest, true)) : 0 ≤ n ∧ n ≤ 4294967295 ∧ s = numStr n ++ rest := by
  have hbd := getNum_bd s
  rw [h] at hbd
  refine ⟨hbd.1, by have := hbd.2; simp only at this; omega, ?_⟩
  unfold getNum at h
  split at h
  · simp at h
  · rename_i h1
    split at h
    · simp at h
    · rename_i h2
      simp only [Prod.mk.injEq, and_true] at h
      obtain ⟨rfl, rfl⟩ := h
      have hbl : ((s.extract 1 (1 + hd s)).data.toList).length = hd s := by rw [len_list, ByteArray.size_extract]; omega
      have hk := nbytes_accB (hd s) _ hbl (by omega) (by
        intro b m e hz
        apply h2
        refine ⟨fun h0 => by rw [e] at hbl; simp at hbl; omega, ?_⟩
        rw [hd_list, e]; exact hz)
      apply ba_ext
      have hlen : (nbytes (accB (s.extract 1 (1 + hd s)).data.toList)).length = hd s := by
        have := congrArg List.length hk.1
        rw [List.length_map, hbl] at this
        exact this
      rw [app_list, numStr_list, hk.1, hlen, ext_list, ext_list]
      cases hs : s.data.toList with
      | nil => have := len_list s; rw [hs] at this; simp at this; omega
      | cons b l =>
        have hb : hd s = b.toNat := by rw [hd_list, hs]
        have hsz : s.size = l.length + 1 := by rw [← len_list, hs]; rfl
        rw [hb, u8_of, Nat.add_comm 1, Nat.add_sub_cancel, List.drop_one, List.tail_cons, List.drop_succ_cons, List.cons_append]
        rw [List.take_of_length_le (l := l.drop b.toNat) (by rw [List.length_drop]; omega), List.take_append_drop]

/-! ### texts -/
theorem getText_put (t : ByteArray) (h : t.size ≤ 4000) (rest : ByteArray) : getText (textStr t ++ rest) = (t, rest, true) := by
  have hg : getNum (textStr t ++ rest) = ((t.size : Int), t ++ rest, true) := by
    unfold textStr
    rw [ByteArray.append_assoc]
    exact getNum_put _ (by omega) (by omega) _
  unfold getText
  rw [hg]
  simp only
  rw [if_pos ⟨trivial, by omega, by rw [size_append]; omega⟩]
  have e1 : (t ++ rest).extract 0 (t.size : Int).toNat = t := by
    apply ba_ext; rw [ext_list, app_list, Int.toNat_natCast, List.drop_zero, Nat.sub_zero, List.take_append_of_le_length (by rw [len_list]; exact Nat.le_refl _), List.take_of_length_le (by rw [len_list]; exact Nat.le_refl _)]
  have e2 : (t ++ rest).extract (t.size : Int).toNat (t ++ rest).size = rest := by
    apply ba_ext
    rw [ext_list, app_list, Int.toNat_natCast, List.drop_append_of_le_length (by rw [len_list]; exact Nat.le_refl _), List.drop_of_length_le (by rw [len_list]; exact Nat.le_refl _), List.nil_append, size_append, Nat.add_sub_cancel_left]
    rw [List.take_of_length_le (by rw [len_list]; exact Nat.le_refl _)]
  rw [e1, e2]
theorem getText_got {s t rest : ByteArray} (h : getText s = (t, rest, true)) : t.size ≤ 4000 ∧ s = textStr t ++ rest := by
  unfold getText at h
  split at h
  · rename_i hc
    obtain ⟨n, r, ok, hn⟩ : ∃ n r ok, getNum s = (n, r, ok) := ⟨_, _, _, rfl⟩
    rw [hn] at h hc
    simp only at h hc
    obtain ⟨rfl, hc1, hc2⟩ := hc
    obtain ⟨h0, h1, hs⟩ := getNum_got hn
    simp only [Prod.mk.injEq, and_true] at h
    obtain ⟨rfl, rfl⟩ := h
    have hsz : ((r.extract 0 n.toNat).size : Int) = n := by rw [ByteArray.size_extract]; omega
    refine ⟨by omega, ?_⟩
    unfold textStr
    rw [hsz, ByteArray.append_assoc, hs]
    congr 1
    apply ba_ext
    rw [app_list, ext_list, ext_list, List.drop_zero, Nat.sub_zero]
    rw [List.take_of_length_le (l := r.data.toList.drop n.toNat) (by rw [List.length_drop, len_list]; omega), List.take_append_drop]
  · simp at h
theorem getText_no {s : ByteArray} (h : (getText s).2.2 = false) : getText s = (⟨#[]⟩, ⟨#[]⟩, false) := by
  unfold getText at h ⊢
  split
  · rename_i hc; rw [if_pos hc] at h; simp at h
  · rfl
theorem getNum_no' {s : ByteArray} (h : (getNum s).2.2 = false) : getNum s = (0, ⟨#[]⟩, false) := by
  unfold getNum at h ⊢
  split
  · rfl
  · split
    · rfl
    · rename_i h1 h2; rw [if_neg h1, if_neg h2] at h; simp at h

/-! ### rows -/
theorem getTexts_put : ∀ (l : List ByteArray) (_ : ∀ t ∈ l, t.size ≤ 4000) (rest : ByteArray), getTexts l.length (catStr (l.map textStr) ++ rest) = (l, rest, true)
  | [], _, rest => by
    have : (⟨#[]⟩ : ByteArray) ++ rest = rest := ba_ext (by rw [app_list]; rfl)
    simp [getTexts, catStr, this]
  | t :: l, h, rest => by
    have hg : getText (catStr ((t :: l).map textStr) ++ rest) = (t, catStr (l.map textStr) ++ rest, true) := by
      rw [List.map_cons, catStr, ByteArray.append_assoc]
      exact getText_put t (h t List.mem_cons_self) _
    have ih := getTexts_put l (fun x hx => h x (List.mem_cons_of_mem _ hx)) rest
    rw [List.length_cons, getTexts, hg]
    simp [ih]
theorem getTexts_got : ∀ (n : Nat) (s : ByteArray) (l : List ByteArray) (rest : ByteArray), getTexts n s = (l, rest, true) → l.length = n ∧ (∀ t ∈ l, t.size ≤ 4000) ∧ s = catStr (l.map textStr) ++ rest
  | 0, s, l, rest, h => by
    simp [getTexts] at h
    obtain ⟨rfl, rfl⟩ := h
    exact ⟨rfl, by simp, ba_ext (by rw [app_list]; rfl)⟩
  | n + 1, s, l, rest, h => by
    unfold getTexts at h
    obtain ⟨t, r, ok, ht⟩ : ∃ t r ok, getText s = (t, r, ok) := ⟨_, _, _, rfl⟩
    rw [ht] at h
    simp only at h
    split at h
    · rename_i hok
      subst hok
      obtain ⟨m, q, k, hm⟩ : ∃ m q k, getTexts n r = (m, q, k) := ⟨_, _, _, rfl⟩
      rw [hm] at h
      simp only at h
      split at h
      · rename_i hk
        subst hk
        simp only [Prod.mk.injEq, and_true] at h
        obtain ⟨rfl, rfl⟩ := h
        obtain ⟨h1, h2, h3⟩ := getTexts_got n r m q hm
        obtain ⟨h4, h5⟩ := getText_got ht
        refine ⟨by simp [h1], fun x hx => ?_, ?_⟩
        · rcases List.mem_cons.1 hx with rfl | hx
          · exact h4
          · exact h2 x hx
        · rw [List.map_cons, catStr, ByteArray.append_assoc, ← h3, h5]
      · simp at h
    · simp at h
theorem getRow_put (l : List ByteArray) (hl : l.length ≤ 1000) (h : ∀ t ∈ l, t.size ≤ 4000) (rest : ByteArray) : getRow (rowStr l ++ rest) = (l, rest, true) := by
  have hg : getNum (rowStr l ++ rest) = ((l.length : Int), catStr (l.map textStr) ++ rest, true) := by
    unfold rowStr
    rw [ByteArray.append_assoc]
    exact getNum_put _ (by omega) (by omega) _
  unfold getRow
  rw [hg]
  simp only
  rw [if_pos ⟨trivial, by omega⟩, Int.toNat_natCast]
  exact getTexts_put l h rest
theorem getRow_got {s : ByteArray} {l : List ByteArray} {rest : ByteArray} (h : getRow s = (l, rest, true)) : l.length ≤ 1000 ∧ (∀ t ∈ l, t.size ≤ 4000) ∧ s = rowStr l ++ rest := by
  unfold getRow at h
  split at h
  · rename_i hc
    obtain ⟨n, r, ok, hn⟩ : ∃ n r ok, getNum s = (n, r, ok) := ⟨_, _, _, rfl⟩
    rw [hn] at h hc
    simp only at h hc
    obtain ⟨rfl, hc1⟩ := hc
    obtain ⟨h0, h1, hs⟩ := getNum_got hn
    obtain ⟨h2, h3, h4⟩ := getTexts_got _ _ _ _ h
    refine ⟨by omega, h3, ?_⟩
    unfold rowStr
    rw [h2, ByteArray.append_assoc, ← h4, hs]
    congr 2
    omega
  · simp at h
theorem getTexts_no : ∀ (n : Nat) (s : ByteArray), (getTexts n s).2.2 = false → getTexts n s = ([], ⟨#[]⟩, false)
  | 0, s, h => by simp [getTexts] at h
  | n + 1, s, h => by
    unfold getTexts at h ⊢
    split
    · rename_i h1
      rw [if_pos h1] at h
      split
      · rename_i h2; rw [if_pos h2] at h; simp at h
      · rfl
    · rfl
theorem getRow_no {s : ByteArray} (h : (getRow s).2.2 = false) : getRow s = ([], ⟨#[]⟩, false) := by
  unfold getRow at h ⊢
  split
  · rename_i hc; rw [if_pos hc] at h; exact getTexts_no _ _ h
  · rfl

end Go.Proofs.CodecPlain
/-
  msg.fields, by hand: the addresses of a message's numbers.
-/
namespace Go.Proofs.Ytfejidinfcmfjaa.P
open Go.RowKit Go.Proofs.YtfejidinfcmfjaaW.PrintWords Go.Proofs.YtfejidinfcmfjaaW.PrintLast

/-- The addresses of a message's numbers. -/
def ptrs (B : Nat) : Array Value := #[.pointer (some ⟨B, 0, none⟩), .pointer (some ⟨B, 1, none⟩), .pointer (some ⟨B, 2, none⟩), .pointer (some ⟨B, 3, none⟩), .pointer (some ⟨B, 4, none⟩), .pointer (some ⟨B, 5, none⟩), .pointer (some ⟨B, 6, none⟩)]
theorem zero_ptrs (w : World) : Sem.run Try.prog (zeroValue 78) w = .ok (.agg #[.pointer none, .pointer none, .pointer none, .pointer none, .pointer none, .pointer none, .pointer none]) w := by kernel_rfl
attribute [local go_sem] zero_ptrs
set_option maxHeartbeats 4000000 in
set_option maxRecDepth 100000 in
theorem msg_fields_calls (B : Nat) (w : World) : Calls Try.prog 57 #[.pointer (some ⟨B, 0, none⟩)] w fun e w' => e = .returned (.agg (ptrs B)) ∧ Below w.heap.size w w' := by
  have HB := Aside0.mk (Below.refl w.heap.size w)
  go_enter Try.func57, Try.ntmps57
  go_wp2
  go_still_tail 22, (by kernel_rfl)
  change wpList _ _ _ _ _ (World.drew _)
  have hblk := blk_drew (blk_new w (.cells #[.pointer none, .pointer none, .pointer none, .pointer none, .pointer none, .pointer none, .pointer none] 78))
  have HB2 := Aside0.mk (below_drew1 (below_alloc (Below.refl w.heap.size w) (.cells #[.pointer none, .pointer none, .pointer none, .pointer none, .pointer none, .pointer none, .pointer none] 78)))
  have HE := Aside0.mk hblk
  have hrun := run_store_run (P := Try.prog) (o := 0) 78 (.agg (ptrs B)) (ptrs B).toList hblk rfl (by kernel_rfl) (by simp [ptrs]) (by simp [ptrs, Value.oneCell'])
  clear hblk
  generalize (w.alloc (.cells #[.pointer none, .pointer none, .pointer none, .pointer none, .pointer none, .pointer none, .pointer none] 78)).drew = w2 at *
  refine store_event (t := 78) (p := 2) (v := .tmp 24) (w1 := w2.setCells w.heap.size 0 (ptrs B).toList) rfl rfl rfl ?_ ?_
  · unfold execOp
    simp only [Act.eval, Sem.run_bind, Sem.run_pure, Result.andThen_ok]
    show ((Sem.run Try.prog (Instr.storeAt 78 (.pointer (some ⟨w.heap.size, 0, none⟩)) (.agg (ptrs B))) w2).andThen _) = _
    rw [hrun]
    rfl
  · intro w3 hw3
    have hrow := setCells_row (ptrs B).toList 0 w2 _ HE.out (by simp [ptrs])
    rw [← hw3] at hrow
    have HB3 := Aside0.mk (show Below w.heap.size w w3 from by
      have hs := setCells_same w.heap.size (ptrs B).toList 0 w2
      rw [hw3]
      exact HB2.out.trans ⟨hs.1, hs.2.1, hs.2.2.1, Nat.le_of_eq hs.2.2.2.symm, fun k hk => setCells_far _ _ k (by omega)⟩)
    obtain ⟨cur, hcur, _, hl⟩ := hrow
    have hl2 : cur = ptrs B := by
      apply Array.toList_inj.1
      rw [hl]
      simp [ptrs]
    subst hl2
    have c0 := blk_cell hcur 0
    have c1 := blk_cell hcur 1
    have c2 := blk_cell hcur 2
    have c3 := blk_cell hcur 3
    have c4 := blk_cell hcur 4
    have c5 := blk_cell hcur 5
    have c6 := blk_cell hcur 6
    clear hw3 hcur hl hrun HE HB2
    simp only [ptrs, List.getElem?_toArray, List.getElem?_cons_zero, List.getElem?_cons_succ] at c0 c1 c2 c3 c4 c5 c6
    go_wp2
    refine bodyPost_ret (v := .agg (ptrs B)) ?_ rfl ⟨rfl, HB3.out⟩
    simp [results, Try.results57, go_sem, c0, c1, c2, c3, c4, c5, c6, ptrs]
end Go.Proofs.Ytfejidinfcmfjaa.P
/-
  strings.Builder's copyCheck and WriteString, by hand, at a builder that the call has made itself.
-/
namespace Go.Proofs.Ytfejidinfcmfjaa.P
open Go.RowKit Go.Shelf Go.Proofs

theorem bld_size : (Try.prog.info? 76).map (fun i => i.size) = some 2 := by kernel_rfl
theorem bld_lies : liesAt Try.prog Try.prog.depth 76 (2 / Try.prog.cellsOf 76) 0 76 1 = true := by kernel_rfl
theorem bld_byte : (Try.prog.info? 5).map (fun i => (i.zero, i.size, i.bytes)) = some (some (.int .u8 0), 1, 1) := by kernel_rfl

set_option maxHeartbeats 1000000 in
set_option maxRecDepth 100000 in
theorem Builder_copyCheck_used (b : Nat) (w : World) (h0 : w.cell? ⟨b, 0, none⟩ = some (.pointer (some ⟨b, 0, none⟩))) :
    Calls Try.prog 78 #[.pointer (some ⟨b, 0, none⟩)] w fun e w' => e = .returned (.tuple #[]) ∧ w' = w := by
  obtain ⟨j, hj, _⟩ := Option.map_eq_some_iff.1 bld_size
  go_enter Try.func78, Try.ntmps78
  go_wp2
  rw [Lib.run_neq_ptr_same w _ Try.underlying73 hj]
  go_wp2
  go_end0
  exact ⟨rfl, rfl⟩

set_option maxHeartbeats 1000000 in
set_option maxRecDepth 100000 in
theorem Builder_copyCheck_fresh (b : Nat) (w : World) (h0 : w.cell? ⟨b, 0, none⟩ = some (.pointer none)) (hsh : w.shape? b = some (76, 2)) (hfz : w.frozen? ⟨b, 0, none⟩ = false) :
    Calls Try.prog 78 #[.pointer (some ⟨b, 0, none⟩)] w fun e w' => e = .returned (.tuple #[]) ∧ w' = w.setCell ⟨b, 0, none⟩ (.pointer (some ⟨b, 0, none⟩)) := by
  obtain ⟨j, hj, hjs⟩ := Option.map_eq_some_iff.1 bld_size
  go_enter Try.func78, Try.ntmps78
  go_wp2
  rw [Lib.run_to_unsafe w ⟨b, 0, none⟩ Try.underlying73 Try.underlying113 hj (by rw [hjs]; decide) hsh (Nat.zero_lt_succ 1)]
  simp only [Result.andThen]
  rw [Oper.upon_value]
  go_wp2
  rw [run_callFunc_extern Try.func86 (by kernel_rfl) (by kernel_rfl) (by kernel_rfl) (e := Extern.AbiNoEscape.same) (by kernel_rfl)]
  rw [Lib.run_noEscape]
  simp only [Result.andThen]
  rw [Oper.upon_value]
  go_wp2
  rw [Lib.run_from_unsafe w ⟨b, 0, none⟩ Try.underlying113 Try.underlying73 hj hsh bld_lies]
  simp only [Result.andThen]
  rw [Oper.upon_value]
  go_wp2
  go_end0
  exact ⟨rfl, rfl⟩

theorem Builder_copyCheck (B b : Nat) (bs : List Value) (w : World) (h : Lib.IsBuilder 76 5 B b bs w) :
    Calls Try.prog 78 #[.pointer (some ⟨b, 0, none⟩)] w fun e w' => e = .returned (.tuple #[]) ∧ (Lib.BuilderAt 76 5 B b (.pointer (some ⟨b, 0, none⟩)) bs w' ∧ Below B w w') := by
  rcases h with h | h
  · refine (Builder_copyCheck_fresh b w h.cell0 h.shape h.frozen0).mono ?_
    rintro e w' ⟨rfl, rfl⟩
    exact ⟨rfl, h.used _, (Below.refl B w).setCell (p := ⟨b, 0, none⟩) h.1 _⟩
  · refine (Builder_copyCheck_used b w h.cell0).mono ?_
    rintro e w' ⟨rfl, rfl⟩
    exact ⟨rfl, h, Below.refl B _⟩

set_option maxHeartbeats 2000000 in
set_option maxRecDepth 100000 in
theorem Builder_WriteString (B b : Nat) (bs : List Value) (s : ByteArray) (w : World) (h : Lib.IsBuilder 76 5 B b bs w) (hlen : bs.length + s.size ≤ 140737488355328) (hBw : B ≤ w.heap.size) :
    Calls Try.prog 59 #[.pointer (some ⟨b, 0, none⟩), .string s] w fun e w' => e = .returned (.tuple #[.int .i64 s.size, .nilIface]) ∧ (Lib.BuilderAt 76 5 B b (.pointer (some ⟨b, 0, none⟩)) (bs ++ Lib.strCells s) w' ∧ Below B w w') := by
  obtain ⟨i0, hi, hz0, hz1, hz2⟩ := info_parts bld_byte
  go_enter Try.func59, Try.ntmps59
  go_wp2_with (go_at_call 78; refine (Builder_copyCheck B b bs _ h).mono ?_)
  rintro e w1 ⟨rfl, h1, hb1⟩
  obtain ⟨hB, v, hbk, hown, hne⟩ := h1
  have c0 : w1.cell? ⟨b, 0, none⟩ = some (.pointer (some ⟨b, 0, none⟩)) := by rw [Lib.cell_of_heap hbk]; rfl
  have c1 : w1.cell? ⟨b, 1, none⟩ = some v := by rw [Lib.cell_of_heap hbk]; rfl
  go_wp2_with (at_builtin; refine Lib.wpList_append_own_string _ rfl _ _ 74 9 rfl B 5 i0 Try.underlying74 Try.underlying9 hi hz0 hz1 hz2 _ _ _ rfl hown s rfl ?c3 ?c4 ?c5 ?_)
  case c3 => unfold maxLen; omega
  case c4 => omega
  case c5 => have := hb1.size; omega
  intro v' w2 hown' hgrow _
  have hlt : b < w1.heap.size := by
    rcases Nat.lt_or_ge b w1.heap.size with h' | h'
    · exact h'
    · simp [Array.getElem?_eq_none h'] at hbk
  have hb2 : w2.heap[b]? = some (.cells #[.pointer (some ⟨b, 0, none⟩), v] 76 (0, 0)) := by
    rw [hgrow.block b hlt (fun e => hne e.symm)]
    exact hbk
  have d0 : w2.cell? ⟨b, 0, none⟩ = some (.pointer (some ⟨b, 0, none⟩)) := by rw [Lib.cell_of_heap hb2]; rfl
  have d1 : w2.cell? ⟨b, 1, none⟩ = some v := by rw [Lib.cell_of_heap hb2]; rfl
  have f1 : w2.frozen? ⟨b, 1, none⟩ = false := Lib.frozen_of_heap hb2 1
  obtain ⟨ao, n', cap, rfl⟩ : ∃ ao n' cap, v' = .slice ao n' cap := by
    rcases hown'.2 with ⟨hv, _⟩ | ⟨g, cap, cur, hv, _⟩
    · exact ⟨_, _, _, hv⟩
    · exact ⟨_, _, _, hv⟩
  go_wp2
  go_ret2
  refine ⟨rfl, ?_, ?_⟩
  · exact Lib.BuilderAt.put (T := 76) (e := 5) hB hb2 (bs' := bs ++ Lib.strCells s) (by simpa [Lib.strCells_length] using hown') (by decide)
  · exact (hb1.grown hgrow (by have := hb1.size; omega) (fun k hk => (hown.lt k hk).1)).setCell (p := ⟨b, 1, none⟩) hB _
end Go.Proofs.Ytfejidinfcmfjaa.P
/-
  codec.bytes, by hand: what the iterator gives to whatever loop. For every number that has bytes.
-/
namespace Go.Proofs.Ytfejidinfcmfjaa.P
open Go.RowKit Go.Shelf Go.Proofs.CodecPlain

attribute [local go_sem] Oper.semAt_some

set_option maxHeartbeats 1000000 in
/-- 'bytes(n)': n lies in a block of its own; the function value captures it. -/
theorem codec_bytes_in (F : Fence) (m : Nat) (h : F.fn 77) (hro : F.round = none) (n : Int) (w : World) :
    CallsIn F m Try.prog 77 #[.int .i64 n] w fun e w' => e = .returned (.func (.func 85) #[] #[.pointer (some ⟨w.heap.size, 0, none⟩)]) ∧ w' = w.alloc (.cells #[.int .i64 n] 3) := by
  refine callsIn_of_wp Try.func77 rfl h ?_ hro
  simp only [Try.ntmps77, List.size_toArray, List.length_cons, List.length_nil, Nat.reduceAdd, Nat.reduceSub, Array.replicate_succ, Array.replicate_zero, List.push_toArray, List.append_toArray, List.nil_append, List.cons_append]
  gi_wp2
  go_ret
  exact ⟨rfl, rfl⟩

theorem step_zero (n : Int) (j : Nat) (e : Int) (h : As (nbyte n (3 - j) = e)) (hb : As (false = !(lead (tops n j)).isEmpty)) (hz : e = 0) :
    As (false = !(lead (tops n (j + 1))).isEmpty ∧ lead (tops n j) = lead (tops n (j + 1))) := by
  have h0 : lead (tops n j) = [] := by have := hb.out; simpa using this.symm
  have := lead_snoc_nil h0 (nbyte n (3 - j))
  rw [h.out, if_pos hz] at this
  constructor
  simp [tops, h.out, this, h0]
theorem step_on (n : Int) (j : Nat) (e : Int) (h : As (nbyte n (3 - j) = e)) (hb : As (true = !(lead (tops n j)).isEmpty) ∨ ¬ e = 0) :
    As (true = !(lead (tops n (j + 1))).isEmpty ∧ lead (tops n j) ++ [e] = lead (tops n (j + 1))) := by
  have hk : lead (tops n (j + 1)) = lead (tops n j) ++ [e] := by
    by_cases h0 : lead (tops n j) = []
    · have := lead_snoc_nil h0 (nbyte n (3 - j))
      rw [h.out, if_neg (hb.elim (fun z => by have := z.out; simp [h0] at this) id)] at this
      simp [tops, h.out, this, h0]
    · have := lead_snoc h0 (nbyte n (3 - j))
      rw [h.out] at this
      simp [tops, h.out, this]
  exact ⟨by simp [hk], hk.symm⟩

set_option maxRecDepth 100000 in
set_option maxHeartbeats 4000000 in
theorem codec_bytes1_in (F : Fence) (m : Nat) (h : F.fn 85) (hro : F.round = none) (hm : 1 ≤ m) (l Bn : Nat) (n : Int) (h0n : 0 ≤ n) (h1n : n ≤ 4294967295) (J Jx : List Int → World → Prop)
    (hY : ∀ pre x W, J pre W → pre.length < 4 → YieldAt F (m - 1) Try.prog l #[.int .u8 x] W fun e W' =>
      (e = .returned (.bool true) ∧ J (pre ++ [x]) W' ∧ (∀ v, Boxed W Bn 3 v → Boxed W' Bn 3 v)) ∨ (e = .returned (.bool false) ∧ Jx (pre ++ [x]) W'))
    (W : World) (hBn : Boxed W Bn 3 (.int .i64 n)) (h0 : J [] W) :
    CallsIn F m Try.prog 85 #[.func (.yield l) #[] #[], .pointer (some ⟨Bn, 0, none⟩)] W fun e W' => (∃ v, e = .returned v) ∧
      ((∃ ys, ys = nbytes n ∧ J ys W') ∨ (∃ pre, True ∧ Jx pre W')) := by
  refine callsIn_of_wp Try.func85 rfl h ?_ hro
  simp only [Try.ntmps85, List.size_toArray, List.length_cons, List.length_nil, Nat.reduceAdd, Nat.reduceSub, Array.replicate_succ, Array.replicate_zero, List.push_toArray, List.append_toArray, List.nil_append, List.cons_append]
  gi_wp2
  gi_loopw [3, 4] (fun s k wr => ∃ (j : Nat) (z : Int) (b : Bool), As ((j = 0 ∧ z = 3) ∨ (j = 1 ∧ z = 2) ∨ (j = 2 ∧ z = 1) ∨ (j = 3 ∧ z = 0) ∨ (j = 4 ∧ z = -1)) ∧ s = .bool b ∧ k = .int .i64 z ∧ As (b = !(lead (tops n j)).isEmpty) ∧ As (Boxed wr Bn 3 (.int .i64 n)) ∧ J (lead (tops n j)) wr)
    (fun _ k _ => (intOf k + 1).toNat)
  case atStart => exact ⟨0, 3, false, ⟨.inl ⟨rfl, rfl⟩⟩, rfl, rfl, ⟨rfl⟩, ⟨hBn⟩, h0⟩
  case round =>
    obtain ⟨j, z, b, hjz, rfl, rfl, hb, hbx, hJ⟩ := hrel
    have hc := hbx.out.cell
    rcases hjz.out with ⟨rfl, rfl⟩ | ⟨rfl, rfl⟩ | ⟨rfl, rfl⟩ | ⟨rfl, rfl⟩ | ⟨rfl, rfl⟩
    · clear hjz
      have hbyte : As (nbyte n 3 = n / 16777216) := ⟨by unfold nbyte; omega⟩
      by_cases hz : n / 16777216 = 0
      · cases b
        · have hnew := step_zero n 0 (n / 16777216) hbyte hb hz
          have e1 : (n / 16777216 == 0) = true := by simpa using hz
          have e2 : (n / 16777216 != 0) = false := by simpa using hz
          clear hz
          gi_wp2
          refine ⟨fun _ h => (by cases h), ?_⟩
          gi_wp2
          go_roundw
          case rel => exact ⟨1, (2), false, ⟨(.inr (.inl ⟨rfl, rfl⟩))⟩, rfl, rfl, ⟨hnew.out.1⟩, hbx, hnew.out.2 ▸ hJ⟩
          case measure => simp [intOf]
        · have hnew := step_on n 0 (n / 16777216) hbyte (.inl hb)
          have e1 : (n / 16777216 == 0) = true := by simpa using hz
          have e2 : (n / 16777216 != 0) = false := by simpa using hz
          clear hz
          obtain ⟨fn, tmps, assign, body, hy, hR⟩ := hY (lead (tops n 0)) (n / 16777216) wr hJ (by have := lead_length (tops n 0); rw [tops_length] at this; omega)
          gi_wp2
          refine hR.mono ?_
          rintro e W3 (⟨rfl, hJ3, hk3⟩ | ⟨rfl, hJx3⟩)
          · have hb3 := (hk3 _ hbx.out); clear hk3
            gi_wp2
            go_roundw
            case rel => exact ⟨1, (2), true, ⟨(.inr (.inl ⟨rfl, rfl⟩))⟩, rfl, rfl, ⟨hnew.out.1⟩, ⟨hb3⟩, hnew.out.2 ▸ hJ3⟩
            case measure => simp [intOf]
          · gi_wp2
            refine bodyPost_ret (results_none rfl _ _ _) rfl ?_
            exact ⟨⟨_, rfl⟩, .inr ⟨_, trivial, hJx3⟩⟩
      · have hnew := step_on n 0 (n / 16777216) hbyte (.inr hz)
        have e1 : (n / 16777216 == 0) = false := by simpa using hz
        have e2 : (n / 16777216 != 0) = true := by simpa using hz
        clear hz
        cases b
        · clear hb
          obtain ⟨fn, tmps, assign, body, hy, hR⟩ := hY (lead (tops n 0)) (n / 16777216) wr hJ (by have := lead_length (tops n 0); rw [tops_length] at this; omega)
          gi_wp2
          refine hR.mono ?_
          rintro e W3 (⟨rfl, hJ3, hk3⟩ | ⟨rfl, hJx3⟩)
          · have hb3 := (hk3 _ hbx.out); clear hk3
            gi_wp2
            go_roundw
            case rel => exact ⟨1, (2), true, ⟨(.inr (.inl ⟨rfl, rfl⟩))⟩, rfl, rfl, ⟨hnew.out.1⟩, ⟨hb3⟩, hnew.out.2 ▸ hJ3⟩
            case measure => simp [intOf]
          · gi_wp2
            refine bodyPost_ret (results_none rfl _ _ _) rfl ?_
            exact ⟨⟨_, rfl⟩, .inr ⟨_, trivial, hJx3⟩⟩
        · clear hb
          obtain ⟨fn, tmps, assign, body, hy, hR⟩ := hY (lead (tops n 0)) (n / 16777216) wr hJ (by have := lead_length (tops n 0); rw [tops_length] at this; omega)
          gi_wp2
          refine hR.mono ?_
          rintro e W3 (⟨rfl, hJ3, hk3⟩ | ⟨rfl, hJx3⟩)
          · have hb3 := (hk3 _ hbx.out); clear hk3
            gi_wp2
            go_roundw
            case rel => exact ⟨1, (2), true, ⟨(.inr (.inl ⟨rfl, rfl⟩))⟩, rfl, rfl, ⟨hnew.out.1⟩, ⟨hb3⟩, hnew.out.2 ▸ hJ3⟩
            case measure => simp [intOf]
          · gi_wp2
            refine bodyPost_ret (results_none rfl _ _ _) rfl ?_
            exact ⟨⟨_, rfl⟩, .inr ⟨_, trivial, hJx3⟩⟩
    · clear hjz
      have hbyte : As (nbyte n 2 = n / 65536 % 256) := ⟨by unfold nbyte; omega⟩
      by_cases hz : n / 65536 % 256 = 0
      · cases b
        · have hnew := step_zero n 1 (n / 65536 % 256) hbyte hb hz
          have e1 : (n / 65536 % 256 == 0) = true := by simpa using hz
          have e2 : (n / 65536 % 256 != 0) = false := by simpa using hz
          clear hz
          gi_wp2
          refine ⟨fun _ h => (by cases h), ?_⟩
          gi_wp2
          go_roundw
          case rel => exact ⟨2, (1), false, ⟨(.inr (.inr (.inl ⟨rfl, rfl⟩)))⟩, rfl, rfl, ⟨hnew.out.1⟩, hbx, hnew.out.2 ▸ hJ⟩
          case measure => simp [intOf]
        · have hnew := step_on n 1 (n / 65536 % 256) hbyte (.inl hb)
          have e1 : (n / 65536 % 256 == 0) = true := by simpa using hz
          have e2 : (n / 65536 % 256 != 0) = false := by simpa using hz
          clear hz
          obtain ⟨fn, tmps, assign, body, hy, hR⟩ := hY (lead (tops n 1)) (n / 65536 % 256) wr hJ (by have := lead_length (tops n 1); rw [tops_length] at this; omega)
          gi_wp2
          refine hR.mono ?_
          rintro e W3 (⟨rfl, hJ3, hk3⟩ | ⟨rfl, hJx3⟩)
          · have hb3 := (hk3 _ hbx.out); clear hk3
            gi_wp2
            go_roundw
            case rel => exact ⟨2, (1), true, ⟨(.inr (.inr (.inl ⟨rfl, rfl⟩)))⟩, rfl, rfl, ⟨hnew.out.1⟩, ⟨hb3⟩, hnew.out.2 ▸ hJ3⟩
            case measure => simp [intOf]
          · gi_wp2
            refine bodyPost_ret (results_none rfl _ _ _) rfl ?_
            exact ⟨⟨_, rfl⟩, .inr ⟨_, trivial, hJx3⟩⟩
      · have hnew := step_on n 1 (n / 65536 % 256) hbyte (.inr hz)
        have e1 : (n / 65536 % 256 == 0) = false := by simpa using hz
        have e2 : (n / 65536 % 256 != 0) = true := by simpa using hz
        clear hz
        cases b
        · clear hb
          obtain ⟨fn, tmps, assign, body, hy, hR⟩ := hY (lead (tops n 1)) (n / 65536 % 256) wr hJ (by have := lead_length (tops n 1); rw [tops_length] at this; omega)
          gi_wp2
          refine hR.mono ?_
          rintro e W3 (⟨rfl, hJ3, hk3⟩ | ⟨rfl, hJx3⟩)
          · have hb3 := (hk3 _ hbx.out); clear hk3
            gi_wp2
            go_roundw
            case rel => exact ⟨2, (1), true, ⟨(.inr (.inr (.inl ⟨rfl, rfl⟩)))⟩, rfl, rfl, ⟨hnew.out.1⟩, ⟨hb3⟩, hnew.out.2 ▸ hJ3⟩
            case measure => simp [intOf]
          · gi_wp2
            refine bodyPost_ret (results_none rfl _ _ _) rfl ?_
            exact ⟨⟨_, rfl⟩, .inr ⟨_, trivial, hJx3⟩⟩
        · clear hb
          obtain ⟨fn, tmps, assign, body, hy, hR⟩ := hY (lead (tops n 1)) (n / 65536 % 256) wr hJ (by have := lead_length (tops n 1); rw [tops_length] at this; omega)
          gi_wp2
          refine hR.mono ?_
          rintro e W3 (⟨rfl, hJ3, hk3⟩ | ⟨rfl, hJx3⟩)
          · have hb3 := (hk3 _ hbx.out); clear hk3
            gi_wp2
            go_roundw
            case rel => exact ⟨2, (1), true, ⟨(.inr (.inr (.inl ⟨rfl, rfl⟩)))⟩, rfl, rfl, ⟨hnew.out.1⟩, ⟨hb3⟩, hnew.out.2 ▸ hJ3⟩
            case measure => simp [intOf]
          · gi_wp2
            refine bodyPost_ret (results_none rfl _ _ _) rfl ?_
            exact ⟨⟨_, rfl⟩, .inr ⟨_, trivial, hJx3⟩⟩
    · clear hjz
      have hbyte : As (nbyte n 1 = n / 256 % 256) := ⟨by unfold nbyte; omega⟩
      by_cases hz : n / 256 % 256 = 0
      · cases b
        · have hnew := step_zero n 2 (n / 256 % 256) hbyte hb hz
          have e1 : (n / 256 % 256 == 0) = true := by simpa using hz
          have e2 : (n / 256 % 256 != 0) = false := by simpa using hz
          clear hz
          gi_wp2
          refine ⟨fun _ h => (by cases h), ?_⟩
          gi_wp2
          go_roundw
          case rel => exact ⟨3, (0), false, ⟨(.inr (.inr (.inr (.inl ⟨rfl, rfl⟩))))⟩, rfl, rfl, ⟨hnew.out.1⟩, hbx, hnew.out.2 ▸ hJ⟩
          case measure => simp [intOf]
        · have hnew := step_on n 2 (n / 256 % 256) hbyte (.inl hb)
          have e1 : (n / 256 % 256 == 0) = true := by simpa using hz
          have e2 : (n / 256 % 256 != 0) = false := by simpa using hz
          clear hz
          obtain ⟨fn, tmps, assign, body, hy, hR⟩ := hY (lead (tops n 2)) (n / 256 % 256) wr hJ (by have := lead_length (tops n 2); rw [tops_length] at this; omega)
          gi_wp2
          refine hR.mono ?_
          rintro e W3 (⟨rfl, hJ3, hk3⟩ | ⟨rfl, hJx3⟩)
          · have hb3 := (hk3 _ hbx.out); clear hk3
            gi_wp2
            go_roundw
            case rel => exact ⟨3, (0), true, ⟨(.inr (.inr (.inr (.inl ⟨rfl, rfl⟩))))⟩, rfl, rfl, ⟨hnew.out.1⟩, ⟨hb3⟩, hnew.out.2 ▸ hJ3⟩
            case measure => simp [intOf]
          · gi_wp2
            refine bodyPost_ret (results_none rfl _ _ _) rfl ?_
            exact ⟨⟨_, rfl⟩, .inr ⟨_, trivial, hJx3⟩⟩
      · have hnew := step_on n 2 (n / 256 % 256) hbyte (.inr hz)
        have e1 : (n / 256 % 256 == 0) = false := by simpa using hz
        have e2 : (n / 256 % 256 != 0) = true := by simpa using hz
        clear hz
        cases b
        · clear hb
          obtain ⟨fn, tmps, assign, body, hy, hR⟩ := hY (lead (tops n 2)) (n / 256 % 256) wr hJ (by have := lead_length (tops n 2); rw [tops_length] at this; omega)
          gi_wp2
          refine hR.mono ?_
          rintro e W3 (⟨rfl, hJ3, hk3⟩ | ⟨rfl, hJx3⟩)
          · have hb3 := (hk3 _ hbx.out); clear hk3
            gi_wp2
            go_roundw
            case rel => exact ⟨3, (0), true, ⟨(.inr (.inr (.inr (.inl ⟨rfl, rfl⟩))))⟩, rfl, rfl, ⟨hnew.out.1⟩, ⟨hb3⟩, hnew.out.2 ▸ hJ3⟩
            case measure => simp [intOf]
          · gi_wp2
            refine bodyPost_ret (results_none rfl _ _ _) rfl ?_
            exact ⟨⟨_, rfl⟩, .inr ⟨_, trivial, hJx3⟩⟩
        · clear hb
          obtain ⟨fn, tmps, assign, body, hy, hR⟩ := hY (lead (tops n 2)) (n / 256 % 256) wr hJ (by have := lead_length (tops n 2); rw [tops_length] at this; omega)
          gi_wp2
          refine hR.mono ?_
          rintro e W3 (⟨rfl, hJ3, hk3⟩ | ⟨rfl, hJx3⟩)
          · have hb3 := (hk3 _ hbx.out); clear hk3
            gi_wp2
            go_roundw
            case rel => exact ⟨3, (0), true, ⟨(.inr (.inr (.inr (.inl ⟨rfl, rfl⟩))))⟩, rfl, rfl, ⟨hnew.out.1⟩, ⟨hb3⟩, hnew.out.2 ▸ hJ3⟩
            case measure => simp [intOf]
          · gi_wp2
            refine bodyPost_ret (results_none rfl _ _ _) rfl ?_
            exact ⟨⟨_, rfl⟩, .inr ⟨_, trivial, hJx3⟩⟩
    · clear hjz
      have hbyte : As (nbyte n 0 = n % 256) := ⟨by unfold nbyte; omega⟩
      by_cases hz : n % 256 = 0
      · cases b
        · have hnew := step_zero n 3 (n % 256) hbyte hb hz
          have e1 : (n % 256 == 0) = true := by simpa using hz
          have e2 : (n % 256 != 0) = false := by simpa using hz
          clear hz
          gi_wp2
          refine ⟨fun _ h => (by cases h), ?_⟩
          gi_wp2
          go_roundw
          case rel => exact ⟨4, (-1), false, ⟨(.inr (.inr (.inr (.inr ⟨rfl, rfl⟩))))⟩, rfl, rfl, ⟨hnew.out.1⟩, hbx, hnew.out.2 ▸ hJ⟩
          case measure => simp [intOf]
        · have hnew := step_on n 3 (n % 256) hbyte (.inl hb)
          have e1 : (n % 256 == 0) = true := by simpa using hz
          have e2 : (n % 256 != 0) = false := by simpa using hz
          clear hz
          obtain ⟨fn, tmps, assign, body, hy, hR⟩ := hY (lead (tops n 3)) (n % 256) wr hJ (by have := lead_length (tops n 3); rw [tops_length] at this; omega)
          gi_wp2
          refine hR.mono ?_
          rintro e W3 (⟨rfl, hJ3, hk3⟩ | ⟨rfl, hJx3⟩)
          · have hb3 := (hk3 _ hbx.out); clear hk3
            gi_wp2
            go_roundw
            case rel => exact ⟨4, (-1), true, ⟨(.inr (.inr (.inr (.inr ⟨rfl, rfl⟩))))⟩, rfl, rfl, ⟨hnew.out.1⟩, ⟨hb3⟩, hnew.out.2 ▸ hJ3⟩
            case measure => simp [intOf]
          · gi_wp2
            refine bodyPost_ret (results_none rfl _ _ _) rfl ?_
            exact ⟨⟨_, rfl⟩, .inr ⟨_, trivial, hJx3⟩⟩
      · have hnew := step_on n 3 (n % 256) hbyte (.inr hz)
        have e1 : (n % 256 == 0) = false := by simpa using hz
        have e2 : (n % 256 != 0) = true := by simpa using hz
        clear hz
        cases b
        · clear hb
          obtain ⟨fn, tmps, assign, body, hy, hR⟩ := hY (lead (tops n 3)) (n % 256) wr hJ (by have := lead_length (tops n 3); rw [tops_length] at this; omega)
          gi_wp2
          refine hR.mono ?_
          rintro e W3 (⟨rfl, hJ3, hk3⟩ | ⟨rfl, hJx3⟩)
          · have hb3 := (hk3 _ hbx.out); clear hk3
            gi_wp2
            go_roundw
            case rel => exact ⟨4, (-1), true, ⟨(.inr (.inr (.inr (.inr ⟨rfl, rfl⟩))))⟩, rfl, rfl, ⟨hnew.out.1⟩, ⟨hb3⟩, hnew.out.2 ▸ hJ3⟩
            case measure => simp [intOf]
          · gi_wp2
            refine bodyPost_ret (results_none rfl _ _ _) rfl ?_
            exact ⟨⟨_, rfl⟩, .inr ⟨_, trivial, hJx3⟩⟩
        · clear hb
          obtain ⟨fn, tmps, assign, body, hy, hR⟩ := hY (lead (tops n 3)) (n % 256) wr hJ (by have := lead_length (tops n 3); rw [tops_length] at this; omega)
          gi_wp2
          refine hR.mono ?_
          rintro e W3 (⟨rfl, hJ3, hk3⟩ | ⟨rfl, hJx3⟩)
          · have hb3 := (hk3 _ hbx.out); clear hk3
            gi_wp2
            go_roundw
            case rel => exact ⟨4, (-1), true, ⟨(.inr (.inr (.inr (.inr ⟨rfl, rfl⟩))))⟩, rfl, rfl, ⟨hnew.out.1⟩, ⟨hb3⟩, hnew.out.2 ▸ hJ3⟩
            case measure => simp [intOf]
          · gi_wp2
            refine bodyPost_ret (results_none rfl _ _ _) rfl ?_
            exact ⟨⟨_, rfl⟩, .inr ⟨_, trivial, hJx3⟩⟩
    · clear hjz
      gi_wp2
      go_end0
      exact ⟨⟨_, rfl⟩, .inl ⟨_, rfl, hJ⟩⟩
end Go.Proofs.Ytfejidinfcmfjaa.P
/-
  codec.Number, by hand: its text for numbers 0 to 4294967295, an error for others. For every int.
-/
namespace Go.Proofs.Ytfejidinfcmfjaa.P
open Go.RowKit Go.Shelf Go.Proofs.CodecPlain Go.Proofs.YtfejidinfcmfjaaW.PrintWords

attribute [local go_sem] Oper.semAt_some

/-! NUMBER -/
theorem codec_bytes_stops (F : Fence) (m : Nat) (h : F.fn 85) (hro : F.round = none) (hm : 1 ≤ m) (Bn : Nat) (n : Int) (h0n : 0 ≤ n) (h1n : n ≤ 4294967295) (w : World)
    (hc : Boxed w Bn 3 (.int .i64 n)) :
    SeqStopsK F m Try.prog 85 #[.pointer (some ⟨Bn, 0, none⟩)] (fun x : Int => #[Value.int .u8 x]) (fun W W' => ∀ v, Boxed W Bn 3 v → Boxed W' Bn 3 v) (fun ys => ys = nbytes n) (fun _ => True) 4 w := fun l J Jx W hW _ _ hY h0 =>
  codec_bytes1_in F m h hro hm l Bn n h0n h1n J Jx hY W ((hW.block Bn hc.lt).trans hc) h0

theorem boxK_b {w : World} (Bn : Nat) (T : TypeId) (W : World) (l : Nat) (o o' : Obj) (_ : w.heap.size ≤ l) (h : W.heap[l]? = some o) (hn : o.isCells = false) (_ : o.isWalk = false) : ∀ v, Boxed W Bn T v → Boxed (W.putObj l o') Bn T v := fun v hv =>
  hv.kept (grownBy_putObj' W l o') (fun e => by cases e; rw [show W.heap[Bn]? = _ from hv] at h; cases h; cases hn)

theorem infoU8 : (Try.prog.info? 5).map (fun i => (i.zero, i.size, i.bytes)) = some (some (.int .u8 0), 1, 1) := by kernel_rfl

set_option maxRecDepth 100000 in
set_option maxHeartbeats 4000000 in
theorem codec_Number_in (F : Fence) (m : Nat) (h10 : F.fn 58) (h25 : F.fn 77) (h29 : F.fn 85) (hro : F.round = none) (hm : 3 ≤ m) (n : Int) (h0n : 0 ≤ n) (h1n : n ≤ 4294967295) (w : World) :
    CallsIn F m Try.prog 58 #[.int .i64 n] w fun e W' => e = .returned (.tuple #[.string (numStr n), .int .i64 0]) ∧ Below w.heap.size w W' := by
  have h1 : 1 ≤ m := by omega
  obtain ⟨i0, hi, hz0, hz1, hz2⟩ := info_parts infoU8
  refine callsIn_of_wp_marks Try.func58 rfl h10 ?_ hro
  simp only [Try.ntmps58, List.size_toArray, List.length_cons, List.length_nil, Nat.reduceAdd, Nat.reduceSub, Array.replicate_succ, Array.replicate_zero, List.push_toArray, List.append_toArray, List.nil_append, List.cons_append]
  gi_wp2_with (gi_at_call 77; refine (codec_bytes_in F (m - 1) h25 hro _ _).mono ?_; rintro e w' ⟨rfl, rfl⟩)
  have bL := Boxed.new (w.alloc (Obj.cells #[Value.int IntKind.u8 0] 5)) 74 (.slice (some ⟨w.heap.size, 0, none⟩) 1 1)
  have bN := Boxed.new ((w.alloc (Obj.cells #[Value.int IntKind.u8 0] 5)).alloc (Obj.cells #[Value.slice (some ⟨w.heap.size, 0, none⟩) 1 1] 74)) 3 (.int .i64 n)
  simp only [World.size_alloc] at bL bN
  have hB0 : Below w.heap.size w (((w.alloc (Obj.cells #[Value.int IntKind.u8 0] 5)).alloc (Obj.cells #[Value.slice (some ⟨w.heap.size, 0, none⟩) 1 1] 74)).alloc (Obj.cells #[Value.int IntKind.i64 n] 3)) := (((Below.refl _ w).alloc (Nat.le_refl _) _).alloc (by simp) _).alloc (by simp; omega) _
  have hown0 : (w.alloc (Obj.cells #[Value.int IntKind.u8 0] 5)).ownsRow w.heap.size 5 1 (.slice (some ⟨w.heap.size, 0, none⟩) 1 1) (([] : List Int).length + 1) (nums .u8 (0 :: [])) :=
    World.ownsRow_lit w #[.int .u8 0] 1 (Nat.le_refl _) (by simp [maxLen]) rfl
  refine wpIn_rangeFunc_ownG hro h1 (gf := 85) (lb := #[.pointer (some ⟨w.heap.size + 1 + 1, 0, none⟩)]) rfl h29 (enters_of Try.func85 (by kernel_rfl) rfl)
    (codec_bytes_stops F (m - 1) h29 hro (by omega) (w.heap.size + 1 + 1) n h0n h1n _ bN) (fun h k v hv => k v (h v hv)) (boxK_b _ _) (Below.refl _ _) (fun _ => rfl)
    (fun pre W => ((∃ v, Boxed W (w.heap.size + 1) 74 v ∧ W.ownsRow w.heap.size 5 1 v (pre.length + 1) (nums .u8 (0 :: pre)) ∧ True)) ∧ Below w.heap.size w W)
    (fun _ _ _ => False)
    (OwnFrom.and (Own.from (holdsRow_own w.heap.size (w.heap.size + 1) 74 5 1 (fun pre => pre.length + 1) (fun pre => nums .u8 (0 :: pre)) (fun _ _ => True)) _) (ownFrom_below (Nat.le_refl _) (by simp; omega)))
    (fun _ _ _ _ _ hs _ _ => hs)
    ⟨⟨_, bL.alloc _, (hown0.alloc _).alloc _, trivial⟩, hB0⟩
    (fun x => {
      tmps :=
        #[Value.int IntKind.i64 n, undef, Value.string { data := #[] }, Value.int IntKind.i64 0,
          Value.pointer (some { block := w.heap.size + 1, off := 0 }), Value.int IntKind.u8 x, Value.int IntKind.i64 n,
          Value.bool (decide (n < 0)), Value.bool (decide (n < 0)), Value.int IntKind.i64 n,
          Value.bool (decide (4294967295 < n)), Value.bool (decide (n < 0) || decide (4294967295 < n)),
          Value.slice (some { block := w.heap.size, off := 0 }) 1 1, Value.int IntKind.i64 n,
          Value.func (Fn.func 85) #[] #[Value.pointer (some { block := w.heap.size + 1 + 1, off := 0 })], Value.int IntKind.u8 x, undef,
          undef, undef, undef, undef, undef, undef, undef, undef, undef, undef, undef],
      defers := [] }) ?assign ?body ?done ?stop
  case assign =>
    intro l x W K hK
    gi_wp2
    exact hK
  case body =>
    rintro l pre x W ⟨⟨v, hv, hrow, _⟩, hB⟩ hlt
    have hc := hv.cell
    gi_wp2_with (gi_at_builtin; refine wpListIn_append_own _ rfl _ _ 74 rfl w.heap.size 5 i0 (.int .u8 0) 1 1 Try.underlying74 hi hz0 hz1 hz2 rfl (by decide) _ _ _ rfl (hrow.alloc _) ⟨W.heap.size, 0, none⟩ 1 1 [.int .u8 x] rfl rfl (cell_one_new _ _ _) (by simp [Value.oneCell']) (by simp [maxLen]; omega) (by omega) (by have := hB.size; simp; omega) ?_; intro v' w1 hown' hgrow _; obtain ⟨g', cap', rfl⟩ := ownsRow_succ hown'; obtain ⟨hv1, hv2, hr2, hk2, hb2⟩ := hv.appended (by decide) hrow hB.size (by omega) hown' hgrow; have hc1 := hv1.cell; have hf1 := hv1.frozen)
    refine ⟨hk2.from _, fun u hu => ?_, ⟨⟨_, hv2, ?_, trivial⟩, hB.trans hb2⟩⟩
    · have hu1 := (hu.alloc (.cells #[.int .u8 x] 5)).kept hgrow (hu.not_row (by decide) hrow)
      exact hu1.other (by omega) _
    · simpa [nums] using hr2
  case done =>
    rintro D ys W hD rfl ⟨⟨v, hv, hrow, _⟩, hB⟩ hK
    obtain ⟨g, cap, rfl⟩ := ownsRow_succ hrow
    have hc := hv.cell
    have hl4 := nbytes_length n
    have hne := (hv.not_row (by decide) hrow)
    have hgne : w.heap.size + 1 ≠ g := fun e => hne (by rw [e]; rfl)
    have hcg : W.cell? ⟨g, 0, none⟩ = some (.int .u8 0) := by rw [hrow.cellAt 0 (by omega)]; rfl
    have hfg : W.frozen? ⟨g, 0, none⟩ = false := hrow.frozenAt 0
    obtain ⟨hrow1, hgr1⟩ := hrow.stored 0 (.int .u8 ((nbytes n).length : Int))
    have hrow2 : (W.setCell ⟨g, 0, none⟩ (.int .u8 ((nbytes n).length : Int))).ownsRow w.heap.size 5 1 (.slice (some ⟨g, 0, none⟩) ((nbytes n).length + 1) cap) ((nbytes n).length + 1) (nums .u8 (((nbytes n).length : Int) :: nbytes n)) := by simpa [nums] using hrow1
    have hv1 := hv.other hgne (.int .u8 ((nbytes n).length : Int))
    have hc1 := hv1.cell
    have hcv := own_string (P := Try.prog) Try.underlying74 Try.underlying5 Try.underlying9 hrow2
    have hB2 : Below w.heap.size w (W.setCell ⟨g, 0, none⟩ (.int .u8 ((nbytes n).length : Int))) := hB.grown hgr1 hB.size (fun k e => by cases e; exact own_base hrow g rfl)
    have hK2 := (KeepsOthers.setCell W ⟨g, 0, none⟩ (.int .u8 ((nbytes n).length : Int))).same D _ hK rfl
    clear hrow1 hrow2 hgr1 hv1 hrow hv hne hK
    gi_wp2
    refine ⟨by simp, .inl ⟨_, _, rfl, run_takeDeferred hK2, ?_⟩⟩
    exact ⟨_, results_tmp2 rfl _ _ _, rfl, hB2.trans (belowK_b (w := w) (Nat.le_refl _) _ D _ _ (by simp at hD; omega) hK2 rfl rfl)⟩
  case stop =>
    rintro D c pre W _ _ h _
    exact h.elim

/-- What codec.Number answers. -/
def codec_Number.f (a0 : Int) : Option (ByteArray × Int) := if 0 ≤ a0 ∧ a0 ≤ 4294967295 then some (numStr a0, 0) else some (⟨#[]⟩, 1)

set_option maxHeartbeats 1000000 in
theorem codec_Number.bad (n : Int) (h : n < 0 ∨ 4294967295 < n) (w : World) :
    Calls Try.prog 58 #[.int .i64 n] w fun e w' => e = .returned (.tuple #[.string ⟨#[]⟩, .int .i64 1]) ∧ w' = w := by
  rcases h with h | h
  · have e1 : decide (n < 0) = true := decide_eq_true h
    clear h
    go_enter Try.func58, Try.ntmps58
    go_wp2
    go_ret2
    exact ⟨rfl, rfl⟩
  · have e1 : decide (n < 0) = false := decide_eq_false (by omega)
    have e2 : decide (4294967295 < n) = true := decide_eq_true h
    clear h
    go_enter Try.func58, Try.ntmps58
    go_wp2
    go_ret2
    exact ⟨rfl, rfl⟩

theorem codec_Number.calls (a0 : Int) (r1 : ByteArray) (r2 : Int) (w : World) (h : codec_Number.f a0 = some (r1, r2)) :
    Calls Try.prog 58 #[.int .i64 a0] w fun e w' => e = .returned (.tuple #[.string r1, .int .i64 r2]) ∧ Below w.heap.size w w' := by
  unfold codec_Number.f at h
  split at h
  · rename_i hn
    simp only [Option.some.injEq, Prod.mk.injEq] at h
    obtain ⟨rfl, rfl⟩ := h
    exact (callsIn_wide (n := 3)).1 (codec_Number_in Fence.wide 3 trivial trivial trivial rfl (by omega) a0 hn.1 hn.2 w)
  · rename_i hn
    simp only [Option.some.injEq, Prod.mk.injEq] at h
    obtain ⟨rfl, rfl⟩ := h
    exact (codec_Number.bad a0 (by omega) w).mono (by rintro e w' ⟨rfl, rfl⟩; exact ⟨rfl, Below.refl _ _⟩)
end Go.Proofs.Ytfejidinfcmfjaa.P
-- Written by a program of this session (xprint.py) over the kit's print.py.
namespace Go.Proofs.Ytfejidinfcmfjaa.P
open Go.RowKit Go.Proofs.YtfejidinfcmfjaaW.PrintWords Go.Proofs.YtfejidinfcmfjaaW.PrintLast Go.Proofs.YtfejidinfcmfjaaW.PrintMore
attribute [local go_sem] max2_int min2_int max_two min_two max_three min_three max_four min_four   -- for this text's walks alone
set_option linter.unusedVariables false
set_option linter.unusedSimpArgs false

/-! ### codec_Text: function 79 -/
def codec_Text.f (a0 : ByteArray) : Option (ByteArray × Int) := if (a0.size : Int) > 4000 then (some ((⟨#[]⟩ : ByteArray), 2)) else ((codec_Number.f (a0.size : Int)).bind fun bt320 => (if bt320.1.size + a0.size ≤ 9223372036854775807 then (some (bt320.1 ++ a0, bt320.2)) else (none)))
set_option maxHeartbeats 8000000 in
set_option maxRecDepth 100000 in
theorem codec_Text.calls (a0 : ByteArray) (r1 : ByteArray) (r2 : Int) (w : World) (h : codec_Text.f a0 = some (r1, r2)) :
    Calls Try.prog 79 #[.string a0] w fun e w' => e = .returned (.tuple #[.string r1, .int .i64 r2]) ∧ Below w.heap.size w w' := by
  have HB := Aside0.mk (Below.refl w.heap.size w)
  have H : (if (a0.size : Int) > 4000 then (some ((⟨#[]⟩ : ByteArray), 2)) else ((codec_Number.f (a0.size : Int)).bind fun bt320 => (if bt320.1.size + a0.size ≤ 9223372036854775807 then (some (bt320.1 ++ a0, bt320.2)) else (none)))) = some (r1, r2) := h
  clear h
  by_cases c2 : (a0.size : Int) > 4000
  · rw [if_pos c2] at H
    have c2b0 : decide (4000 < (a0.size : Int)) = true := decide_eq_true c2
    have c2b1 : decide (4000 < a0.size) = true := decide_eq_true (by omega)
    clear c2
    simp only [Option.some.injEq, Prod.mk.injEq] at H
    obtain ⟨rfl, rfl⟩ := H
    go_enter Try.func79, Try.ntmps79
    go_wp2
    go_ret2
    exact ⟨by first | rfl | (simp [errW_none, errW_some] <;> rfl) | (simp [*, errW_none, errW_some] <;> rfl), by repeat (first | (with_reducible first | exact HB.out | apply below_alloc | apply pw_below_drewN | apply below_drew1) | exact HB.out)⟩
  · rw [if_neg c2] at H
    have c2b0 : decide (4000 < (a0.size : Int)) = false := decide_eq_false c2
    have c2b1 : decide (4000 < a0.size) = false := decide_eq_false (by omega)
    clear c2
    replace H := Option.bind_eq_some_iff.mp H
    obtain ⟨⟨t320, t321⟩, A30, H⟩ := H
    replace H : (if t320.size + a0.size ≤ 9223372036854775807 then (some (t320 ++ a0, t321)) else (none)) = some (r1, r2) := H
    have A3 := Aside0.mk A30
    clear A30
    by_cases c4 : t320.size + a0.size ≤ 9223372036854775807
    · rw [if_pos c4] at H
      have c4b0 := eq_true c4
      have c4b1 : decide (t320.size + a0.size ≤ 9223372036854775807) = true := decide_eq_true c4
      try have c4b2 : (9223372036854775807 < t320.size + a0.size) = False := eq_false (Nat.not_lt.2 c4)
      simp only [Option.some.injEq, Prod.mk.injEq] at H
      obtain ⟨rfl, rfl⟩ := H
      go_enter Try.func79, Try.ntmps79
      go_wp2_with (first | ((with_reducible refine gate_callee (f := 58) rfl ?_); refine goesL_ (some 12) rfl rfl Try.func58 (by kernel_rfl) rfl #[.int .i64 (a0.size : Int)] rfl (by (try simp only [List.map_toArray, List.map_cons, List.map_nil]); first | done | rfl | (simp only [List.length_drop, List.length_take]; rfl)) ?_; (with_reducible refine (codec_Number.calls (a0.size : Int) t320 t321 _ A3.out).mono ?_); rintro e w5 ⟨rfl, hb⟩; refine ⟨_, rfl, ?_⟩; have n0_ := Aside0.mk (below_step (by repeat (first | (with_reducible first | exact HB.out | apply below_alloc | apply pw_below_drewN | apply below_drew1) | exact HB.out)) hb); clear HB; have HB := n0_; clear n0_; (try clear hb); (try clear hb2); (try clear hk); (try clear hi)))
      go_ret2
      exact ⟨by first | rfl | (simp [errW_none, errW_some] <;> rfl) | (simp [*, errW_none, errW_some] <;> rfl), by repeat (first | (with_reducible first | exact HB.out | apply below_alloc | apply pw_below_drewN | apply below_drew1) | exact HB.out)⟩
    · rw [if_neg c4] at H
      exact absurd H (by simp)

end Go.Proofs.Ytfejidinfcmfjaa.P
/-
  codec.Row, by hand: a row's text: how many, and each one's text; an error for a row too long, or one that holds a text too long. For every row.
-/
namespace Go.Proofs.Ytfejidinfcmfjaa.P
open Go.RowKit Go.Shelf Go.Proofs Go.Proofs.CodecPlain Go.Proofs.YtfejidinfcmfjaaW.PrintWords Go.Proofs.YtfejidinfcmfjaaW.PrintLast

theorem bld_below {T e : TypeId} {B b : Nat} {p : Value} {bs : List Value} {w w' : World} (h : Lib.BuilderAt T e B b p bs w) (hb : Below w.heap.size w w') : Lib.BuilderAt T e B b p bs w' := by
  obtain ⟨hB, v, hbk, hown, hne⟩ := h
  have hlt : b < w.heap.size := (Array.getElem?_eq_some_iff.1 hbk).1
  exact ⟨hB, v, (hb.block b hlt).trans hbk, own_move hown (fun k hk => hb.block k (own_lt hown k hk)), hne⟩
theorem isBld_below {T e : TypeId} {B b : Nat} {bs : List Value} {w w' : World} (h : Lib.IsBuilder T e B b bs w) (hb : Below w.heap.size w w') : Lib.IsBuilder T e B b bs w' :=
  h.elim (fun h => .inl (bld_below h hb)) (fun h => .inr (bld_below h hb))
theorem cells_snoc (L : List UInt8) (s : ByteArray) : Lib.byteCells L ++ Lib.strCells s = Lib.byteCells (L ++ s.data.toList) := by simp [Lib.byteCells, Lib.strCells]

/-- 'b.WriteString(s)'. -/
theorem bld_write (B b : Nat) (L : List UInt8) (s : ByteArray) (w : World) (h : Lib.IsBuilder 76 5 B b (Lib.byteCells L) w) (hlen : L.length + s.size ≤ 140737488355328) (hBw : B ≤ w.heap.size) :
    Calls Try.prog 59 #[.pointer (some ⟨b, 0, none⟩), .string s] w fun e w' => e = .returned (.tuple #[.int .i64 s.size, .nilIface]) ∧ Aside0 (Lib.IsBuilder 76 5 B b (Lib.byteCells (L ++ s.data.toList)) w') ∧ Aside0 (Below B w w') := by
  refine (Builder_WriteString B b (Lib.byteCells L) s w h (by simpa [Lib.byteCells] using hlen) hBw).mono ?_
  rintro e w' ⟨rfl, h1, h2⟩
  exact ⟨rfl, ⟨.inr (by rw [← cells_snoc]; exact h1)⟩, ⟨h2⟩⟩

theorem rd_string (l : List ByteArray) (k : Nat) (h : k < l.length) : rdOf ByteArray.empty l (k : Int) = l[k] := by
  simp [rdOf, List.getD_eq_getElem?_getD, h]

/-- What codec.Row answers. -/
def codec_Row.f (l : List ByteArray) : Option (ByteArray × Int) :=
  if 1000 < l.length then some (⟨#[]⟩, 2) else if l.all (fun s => decide (s.size ≤ 4000)) = true then some (rowStr l, 0) else some (⟨#[]⟩, 2)

theorem text_ok (s : ByteArray) (h : s.size ≤ 4000) : codec_Text.f s = some (textStr s, 0) := by
  have hn := numStr_size (s.size : Int)
  unfold codec_Text.f codec_Number.f
  rw [if_neg (by omega), if_pos (by omega)]
  simp only [Option.bind_some]
  rw [if_pos (by omega)]
  rfl
theorem text_no (s : ByteArray) (h : 4000 < s.size) : codec_Text.f s = some (⟨#[]⟩, 2) := by
  unfold codec_Text.f
  rw [if_pos (by omega)]

set_option maxHeartbeats 4000000 in
set_option maxRecDepth 100000 in
theorem codec_Row_in (A : Option Addr) (c : Nat) (l : List ByteArray) (w : World) (hr : Kd.C Kd.string w A l.length l) (hl : l.length ≤ 1000) :
    Calls Try.prog 60 #[.slice A l.length c] w fun e w' => ∃ r1 r2, Aside0 (codec_Row.f l = some (r1, r2)) ∧ e = .returned (.tuple #[.string r1, .int .i64 r2]) ∧ Below w.heap.size w w' := by
  have HR := Aside0.mk hr
  clear hr
  have e0 : decide (1000 < l.length) = false := decide_eq_false (by omega)
  have hnum : As (codec_Number.f (l.length : Int) = some (numStr l.length, 0)) := ⟨by unfold codec_Number.f; rw [if_pos (by omega)]⟩
  have hns := numStr_size (l.length : Int)
  go_enter Try.func60, Try.ntmps60
  go_wp2_with (go_at_call 58; refine (codec_Number.calls _ _ _ _ hnum.out).mono ?_; rintro e w1 ⟨rfl, hb1⟩; have HB1 := Aside0.mk hb1; clear hb1; have HB := Aside0.mk (((Below.refl w.heap.size w).alloc (Nat.le_refl _) _).trans (HB1.out.mono (by simp))); have hbld := isBld_below (Lib.fresh_isBuilder 76 5 w) HB1.out; have hbl := Aside0.mk hbld; clear hbld HB1)
  go_wp2_with (go_at_call 59; refine (bld_write w.heap.size w.heap.size [] (numStr l.length) _ hbl.out (by simp; omega) HB.out.size).mono ?_; rintro e w2 ⟨rfl, hbw, hB2⟩)
  have HB3 := Aside0.mk (HB.out.trans hB2.out)
  clear HB hB2 hbl
  go_loopw [8, 9, 10, 24] (fun _ _ _ i wr => ∃ k : Nat, k ≤ l.length ∧ i = .int .i64 k ∧ Aside0 (∀ s ∈ l.take k, s.size ≤ 4000) ∧ Aside0 (Lib.IsBuilder 76 5 w.heap.size w.heap.size (Lib.byteCells (((numStr l.length) ++ catStr ((l.take k).map textStr)).data.toList)) wr) ∧ Aside0 (Below w.heap.size w wr))
    (fun _ _ _ i _ => l.length - (intOf i).toNat)
  case atStart => exact ⟨0, Nat.zero_le _, rfl, ⟨by simp⟩, ⟨by have := hbw.out; simpa [catStr] using this⟩, HB3⟩
  case round =>
    clear HB3 hbw e0 hnum
    obtain ⟨k, hk, rfl, hall, hbl, HB⟩ := hrel
    by_cases hlt : k < l.length
    · obtain ⟨ad, rfl, hx⟩ := Kd.at_string (Kd.C_below HR.out HB.out) (k : Int) (by omega) (by omega)
      rw [rd_string l k hlt, Int.toNat_natCast] at hx
      by_cases hsz : l[k].size ≤ 4000
      · have ht := Aside0.mk (text_ok l[k] hsz)
        have hts := textStr_size l[k]
        have hcs := catStr_size (l.take k) hall.out
        rw [List.length_take] at hcs
        have hnx := Aside0.mk (row_next l k hlt)
        have hal2 : Aside0 (∀ s ∈ l.take (k + 1), s.size ≤ 4000) := ⟨by
          rw [List.take_succ_eq_append_getElem hlt]; intro s hs
          rcases List.mem_append.1 hs with h | h
          · exact hall.out s h
          · rw [List.mem_singleton.1 h]; exact hsz⟩
        have hlen : Aside0 (((numStr (l.length : Int)) ++ catStr ((l.take k).map textStr)).data.toList.length + (textStr l[k]).size ≤ 140737488355328) := ⟨by
          rw [Array.length_toList]
          show ((numStr (l.length : Int)) ++ catStr ((l.take k).map textStr)).size + _ ≤ _
          rw [CodecPlain.size_append]
          omega⟩
        clear hsz hts hcs
        go_wp2_with (first | (go_at_call 79; refine (codec_Text.calls _ _ _ _ ht.out).mono ?_; rintro e w3 ⟨rfl, hb3⟩; have hbl3 := Aside0.mk (isBld_below hbl.out hb3); have HB3 := Aside0.mk (HB.out.trans (hb3.mono HB.out.size)); clear hb3) | (go_at_call 59; refine (bld_write w.heap.size w.heap.size _ (textStr l[k]) _ hbl3.out hlen.out HB3.out.size).mono ?_; rintro e w4 ⟨rfl, hbw4, hB4⟩))
        go_roundw
        case rel => exact ⟨k + 1, by omega, by go_num, hal2, ⟨by have := hbw4.out; rw [hnx.out] at this; exact this⟩, ⟨HB3.out.trans hB4.out⟩⟩
        case measure => simp [intOf]; omega
      · have ht := Aside0.mk (text_no l[k] (by omega))
        have hres : Aside0 (codec_Row.f l = some (⟨#[]⟩, 2)) := ⟨by
          unfold codec_Row.f
          rw [if_neg (by omega), if_neg]
          intro h
          have := List.all_eq_true.1 h l[k] (List.getElem_mem hlt)
          exact hsz (of_decide_eq_true this)⟩
        clear hsz
        go_wp2_with (go_at_call 79; refine (codec_Text.calls _ _ _ _ ht.out).mono ?_; rintro e w3 ⟨rfl, hb3⟩; have HB3 := Aside0.mk (HB.out.trans (hb3.mono HB.out.size)); clear hb3)
        go_ret2
        exact ⟨_, _, hres, rfl, HB3.out⟩
    · obtain rfl : k = l.length := by omega
      have hres : Aside0 (codec_Row.f l = some (rowStr l, 0)) := ⟨by
          unfold codec_Row.f
          rw [if_neg (by omega), if_pos]
          rw [List.all_eq_true]
          intro s hs
          have h := hall.out s (by rw [List.take_length]; exact hs)
          exact decide_eq_true h⟩
      have hbe := hbl.out
      rw [List.take_length] at hbe
      have hbe2 := Aside0.mk hbe
      clear hbe hbl
      go_wp2_with (go_at_call 61; refine (Try.Builder_String_any w.heap.size w.heap.size _ _ hbe2.out HB.out.size).mono ?_; rintro e w5 ⟨rfl, hb5⟩; have HB5 := Aside0.mk (HB.out.trans hb5); clear hb5)
      go_ret2
      exact ⟨_, _, hres, rfl, HB5.out⟩

set_option maxHeartbeats 1000000 in
theorem codec_Row.calls (A0 : Option Addr) (c0 : Nat) (l0 : List ByteArray) (r1 : ByteArray) (r2 : Int) (w : World) (hr0 : Kd.C Kd.string w A0 l0.length l0) (hc0 : l0.length ≤ c0) (h : codec_Row.f l0 = some (r1, r2)) :
    Calls Try.prog 60 #[.slice A0 l0.length c0] w fun e w' => e = .returned (.tuple #[.string r1, .int .i64 r2]) ∧ Below w.heap.size w w' := by
  by_cases hl : l0.length ≤ 1000
  · refine (codec_Row_in A0 c0 l0 w hr0 hl).mono ?_
    rintro e w' ⟨s1, s2, hs, rfl, hb⟩
    have := h.symm.trans hs.out
    simp only [Option.some.injEq, Prod.mk.injEq] at this
    obtain ⟨rfl, rfl⟩ := this
    exact ⟨rfl, hb⟩
  · have hgt : 1000 < l0.length := by omega
    have hm := hr0.2.1
    unfold codec_Row.f at h
    rw [if_pos (by omega)] at h
    simp only [Option.some.injEq, Prod.mk.injEq] at h
    obtain ⟨rfl, rfl⟩ := h
    clear hl hr0
    go_enter Try.func60, Try.ntmps60
    go_wp2
    go_ret2
    exact ⟨rfl, Below.refl _ _⟩
end Go.Proofs.Ytfejidinfcmfjaa.P
-- Written by a program of this session (xprint.py) over the kit's print.py.
namespace Go.Proofs.Ytfejidinfcmfjaa.P
open Go.RowKit Go.Proofs.YtfejidinfcmfjaaW.PrintWords Go.Proofs.YtfejidinfcmfjaaW.PrintLast Go.Proofs.YtfejidinfcmfjaaW.PrintMore
attribute [local go_sem] max2_int min2_int max_two min_two max_three min_three max_four min_four   -- for this text's walks alone
set_option linter.unusedVariables false
set_option linter.unusedSimpArgs false

/-! ### msg_within: function 68 -/
def msg_within.f (a0 : Int) (a1 : Int) : Option (Bool) := if a0 ≥ 0 then (some (decide (a0 ≤ a1))) else (some false)
set_option maxHeartbeats 8000000 in
set_option maxRecDepth 100000 in
theorem msg_within.calls (a0 : Int) (a1 : Int) (r : Bool) (w : World) (h : msg_within.f a0 a1 = some r) :
    Calls Try.prog 68 #[.int .i64 a0, .int .i64 a1] w fun e w' => e = .returned (.bool r) ∧ Drawn0 w w' := by
  have H : (if a0 ≥ 0 then (some (decide (a0 ≤ a1))) else (some false)) = some r := h
  clear h
  by_cases c3 : a0 ≥ 0
  · rw [if_pos c3] at H
    have c3b0 : decide (0 ≤ a0) = true := decide_eq_true c3
    clear c3
    obtain rfl := Option.some.inj H
    go_enter Try.func68, Try.ntmps68
    go_wp2
    go_ret
    exact ⟨by first | rfl | (simp; done) | (simp [*]; done), by repeat (first | exact Drawn0.refl _ | apply Drawn0.step)⟩
  · rw [if_neg c3] at H
    have c3b0 : decide (0 ≤ a0) = false := decide_eq_false c3
    clear c3
    obtain rfl := Option.some.inj H
    go_enter Try.func68, Try.ntmps68
    go_wp2
    go_ret
    exact ⟨by first | rfl | (simp; done) | (simp [*]; done), by repeat (first | exact Drawn0.refl _ | apply Drawn0.step)⟩

end Go.Proofs.Ytfejidinfcmfjaa.P
/-
  Small plain words: the first place where a predicate holds; a list's element.
-/
namespace Go.Proofs.Plain
open Go.Proofs.YtfejidinfcmfjaaW.PrintWords

theorem rdOf_nat {α : Type} {d : α} (l : List α) (k : Nat) (h : k < l.length) : rdOf d l (k : Int) = l[k] := by
  simp [rdOf, List.getD_eq_getElem?_getD, h]
/-- The first place at which p holds, or -1. -/
def idx {α : Type} (p : α → Bool) (l : List α) : Int := if l.any p = true then ((l.takeWhile fun x => !p x).length : Int) else -1
theorem idx_none {α : Type} {p : α → Bool} {l : List α} (h : ∀ x ∈ l, p x = false) : idx p l = -1 := by
  unfold idx
  rw [if_neg]
  intro h1
  obtain ⟨x, hx, hp⟩ := List.any_eq_true.1 h1
  rw [h x hx] at hp; cases hp
theorem idx_at {α : Type} {p : α → Bool} {l : List α} {k : Nat} (hk : k < l.length) (h : ∀ x ∈ l.take k, p x = false) (hp : p l[k] = true) : idx p l = (k : Int) := by
  unfold idx
  rw [if_pos (List.any_eq_true.2 ⟨l[k], List.getElem_mem hk, hp⟩)]
  have hl : l = l.take k ++ l[k] :: l.drop (k + 1) := by
    rw [List.getElem_cons_drop, List.take_append_drop]
  have key : ∀ (a : List α) (x : α) (b : List α), (∀ y ∈ a, p y = false) → p x = true → ((a ++ x :: b).takeWhile fun x => !p x).length = a.length := by
    intro a
    induction a with
    | nil => intro x b _ hx; simp [List.takeWhile, hx]
    | cons y a ih =>
      intro x b ha hx
      have h1 := ha y List.mem_cons_self
      simp only [List.cons_append, List.takeWhile, h1, Bool.not_false, List.length_cons]
      rw [ih x b (fun z hz => ha z (List.mem_cons_of_mem _ hz)) hx]
  have := key (l.take k) l[k] (l.drop (k + 1)) h hp
  rw [← hl, List.length_take] at this
  rw [this]
  omega
theorem idx_ge {α : Type} (p : α → Bool) (l : List α) : decide (idx p l ≥ 0) = l.any p := by
  unfold idx
  cases h : l.any p with
  | true => rw [if_pos rfl]; exact decide_eq_true (by omega)
  | false => rw [if_neg (by decide)]; rfl
end Go.Proofs.Plain
/-
  slices.IndexFunc and slices.ContainsFunc over texts, at whatever function value that answers a plain predicate, by hand.
-/
namespace Go.Proofs.Ytfejidinfcmfjaa.P
open Go.RowKit Go.Shelf Go.Proofs.YtfejidinfcmfjaaW.PrintWords Go.Proofs.YtfejidinfcmfjaaW.PrintLast Go.Proofs.Plain

/-- The function value (g, with lb captured) answers p at each of l's elements, and turns nothing that lies, from w on. -/
def PredAt {α : Type} (g : Nat) (lb : Array Value) (enc : α → Value) (p : α → Bool) (l : List α) (w : World) : Prop :=
  (∀ args w, (callFunc g args).run Try.prog w = .ok (.enter g args) w) ∧
  ∀ x ∈ l, ∀ w1, Below w.heap.size w w1 → Calls Try.prog g (#[enc x] ++ lb) w1 fun e w2 => e = .returned (.bool (p x)) ∧ Below w1.heap.size w1 w2

set_option maxHeartbeats 2000000 in
theorem IndexFuncStr (g : Nat) (lb : Array Value) (p : ByteArray → Bool) (A : Option Addr) (c : Nat) (l : List ByteArray) (w : World) (hr : Kd.C Kd.string w A l.length l) (hp : PredAt g lb Value.string p l w) :
    Calls Try.prog 89 #[.slice A l.length c, .func (.func g) #[] lb] w fun e w' => e = .returned (.int .i64 (idx p l)) ∧ Below w.heap.size w w' := by
  have HR := Aside0.mk hr
  have hm := hr.2.1
  obtain ⟨eg, hpr⟩ := hp
  have HP := Aside0.mk hpr
  clear hr hpr
  go_enter Try.func89, Try.ntmps89
  go_wp2
  go_loopw [4, 5, 8] (fun _ _ i wr => ∃ k : Nat, k ≤ l.length ∧ i = .int .i64 k ∧ Aside0 (∀ x ∈ l.take k, p x = false) ∧ Aside0 (Below w.heap.size w wr)) (fun _ _ i _ => l.length - (intOf i).toNat)
  case atStart => exact ⟨0, Nat.zero_le _, rfl, ⟨by simp⟩, ⟨Below.refl _ _⟩⟩
  case round =>
    obtain ⟨k, hk, rfl, hall, HB⟩ := hrel
    by_cases hlt : k < l.length
    · obtain ⟨ad, rfl, hx⟩ := Kd.at_string (Kd.C_below HR.out HB.out) (k : Int) (by omega) (by omega)
      rw [rdOf_nat l k hlt, Int.toNat_natCast] at hx
      have hcall := HP.out l[k] (List.getElem_mem hlt) wr HB.out
      cases hpk : p l[k]
      · have hal2 : Aside0 (∀ x ∈ l.take (k + 1), p x = false) := ⟨by
          rw [List.take_succ_eq_append_getElem hlt]; intro s hs
          rcases List.mem_append.1 hs with h | h
          · exact hall.out s h
          · rw [List.mem_singleton.1 h]; exact hpk⟩
        have HC := Aside0.mk hcall
        have HK := Aside0.mk hpk
        clear hcall hpk
        go_wp2_with (go_at_fn g; refine HC.out.mono ?_; rintro e w3 ⟨rfl, hb3⟩; have HB3 := Aside0.mk (HB.out.trans (hb3.mono HB.out.size)); clear hb3; rw [HK.out])
        go_roundw
        case rel => exact ⟨k + 1, by omega, by go_num, hal2, HB3⟩
        case measure => simp [intOf]; omega
      · have HC := Aside0.mk hcall
        have HK := Aside0.mk hpk
        have hres := Aside0.mk (idx_at hlt hall.out hpk)
        clear hcall hpk
        go_wp2_with (go_at_fn g; refine HC.out.mono ?_; rintro e w3 ⟨rfl, hb3⟩; have HB3 := Aside0.mk (HB.out.trans (hb3.mono HB.out.size)); clear hb3; rw [HK.out])
        go_ret
        exact ⟨by rw [hres.out]; rfl, HB3.out⟩
    · obtain rfl : k = l.length := by omega
      have hres := Aside0.mk (idx_none (p := p) (l := l) (fun x hx => hall.out x (by rw [List.take_length]; exact hx)))
      go_wp2
      go_ret
      exact ⟨by rw [hres.out]; rfl, HB.out⟩

set_option maxHeartbeats 1000000 in
theorem ContainsFuncStr (g : Nat) (lb : Array Value) (p : ByteArray → Bool) (A : Option Addr) (c : Nat) (l : List ByteArray) (w : World) (hr : Kd.C Kd.string w A l.length l) (hp : PredAt g lb Value.string p l w) :
    Calls Try.prog 84 #[.slice A l.length c, .func (.func g) #[] lb] w fun e w' => e = .returned (.bool (l.any p)) ∧ Below w.heap.size w w' := by
  have HC := Aside0.mk (IndexFuncStr g lb p A c l w hr hp)
  have hge := Aside0.mk (idx_ge p l)
  clear hr hp
  obtain ⟨n, hn⟩ : ∃ n, n = idx p l := ⟨_, rfl⟩
  rw [← hn] at HC hge
  clear hn
  go_enter Try.func84, Try.ntmps84
  go_wp2_with (go_at_call 89; refine HC.out.mono ?_; rintro e w3 ⟨rfl, hb3⟩; have HB3 := Aside0.mk hb3; clear hb3)
  go_ret
  exact ⟨by rw [← hge.out]; rfl, HB3.out⟩
end Go.Proofs.Ytfejidinfcmfjaa.P
/-
  msg.logged, by hand.
-/
namespace Go.Proofs.Ytfejidinfcmfjaa.P
open Go.RowKit Go.Shelf Go.Proofs.YtfejidinfcmfjaaW.PrintWords Go.Proofs.YtfejidinfcmfjaaW.PrintLast Go.Proofs.Plain

def long300 (s : ByteArray) : Bool := decide (300 < s.size)
/-- Whether a log may be, and so many of it be committed. -/
def loggedB (l : List ByteArray) (c : Int) : Bool := decide (l.length ≤ 60) && (decide (0 ≤ c) && decide (c ≤ (l.length : Int))) && !(l.any long300)
def msg_logged.f (l0 : List ByteArray) (a1 : Int) : Option Bool := some (loggedB l0 a1)
theorem within_f (a b : Int) : msg_within.f a b = some (decide (0 ≤ a) && decide (a ≤ b)) := by
  unfold msg_within.f
  by_cases h : a ≥ 0
  · rw [if_pos h, decide_eq_true (show 0 ≤ a from h)]; rfl
  · rw [if_neg h, decide_eq_false (show ¬ 0 ≤ a from h)]; rfl
theorem msg_logged1_calls (s : ByteArray) (w : World) : Calls Try.prog 83 #[.string s] w fun e w' => e = .returned (.bool (long300 s)) ∧ w' = w := by
  have hl := Aside0.mk (show long300 s = decide (300 < (s.size : Int)) by unfold long300; by_cases h : 300 < s.size <;> simp [h] <;> omega)
  go_enter Try.func83, Try.ntmps83
  go_wp2
  go_ret
  exact ⟨by rw [hl.out]; rfl, rfl⟩
theorem logged1_pred (l : List ByteArray) (w : World) : PredAt 83 #[] Value.string long300 l w :=
  ⟨enters_of Try.func83 (by kernel_rfl) rfl, fun x _ w1 _ => (msg_logged1_calls x w1).mono (by rintro e w2 ⟨rfl, rfl⟩; exact ⟨rfl, Below.refl _ _⟩)⟩
set_option maxHeartbeats 2000000 in
theorem msg_logged.calls (A0 : Option Addr) (c0 : Nat) (l0 : List ByteArray) (a1 : Int) (r : Bool) (w : World) (hr0 : Kd.C Kd.string w A0 l0.length l0) (hc0 : l0.length ≤ c0) (h : msg_logged.f l0 a1 = some r) :
    Calls Try.prog 69 #[.slice A0 l0.length c0, .int .i64 a1] w fun e w' => e = .returned (.bool r) ∧ Below w.heap.size w w' := by
  have hv := Aside0.mk (Option.some.inj h)
  clear h
  have hm := hr0.2.1
  have HW := Aside0.mk (fun W => msg_within.calls a1 (l0.length : Int) _ W (within_f _ _))
  have HC := Aside0.mk (fun n => ContainsFuncStr 83 #[] long300 A0 c0 l0 (w.drewN n) (Kd.C_drewN hr0 n) (logged1_pred l0 _))
  unfold loggedB at hv
  clear hr0
  by_cases h1 : l0.length ≤ 60
  · have e1 : decide ((l0.length : Int) ≤ 60) = true := decide_eq_true (by omega)
    rw [decide_eq_true h1, Bool.true_and] at hv
    clear h1
    cases hw : (decide (0 ≤ a1) && decide (a1 ≤ (l0.length : Int)))
    · rw [hw] at HW hv
      rw [Bool.false_and] at hv
      clear hw
      go_enter Try.func69, Try.ntmps69
      go_wp2_with (first | (go_at_call 68; (with_reducible refine (HW.out _).mono ?_); rintro e w3 ⟨rfl, ⟨n, rfl⟩⟩))
      go_ret
      exact ⟨by rw [← hv.out]; rfl, pw_below_drewN (Below.refl _ _) _⟩
    · rw [hw] at HW hv
      rw [Bool.true_and] at hv
      clear hw
      obtain ⟨b, hb⟩ : ∃ b, b = l0.any long300 := ⟨_, rfl⟩
      rw [← hb] at HC hv
      clear hb
      go_enter Try.func69, Try.ntmps69
      go_wp2_with (first | (go_at_call 68; (with_reducible refine (HW.out _).mono ?_); rintro e w3 ⟨rfl, ⟨n, rfl⟩⟩; have HC2 := Aside0.mk (HC.out n)) | (go_at_call 84; (with_reducible refine HC2.out.mono ?_); rintro e w4 ⟨rfl, hb4⟩; have HB4 := Aside0.mk hb4; clear hb4))
      go_ret
      exact ⟨by rw [← hv.out]; rfl, below_step (pw_below_drewN (Below.refl _ _) _) HB4.out⟩
  · have e1 : decide ((l0.length : Int) ≤ 60) = false := decide_eq_false (by omega)
    rw [decide_eq_false h1, Bool.false_and, Bool.false_and] at hv
    clear h1
    go_enter Try.func69, Try.ntmps69
    go_wp2
    go_ret
    exact ⟨by rw [← hv.out]; rfl, Below.refl _ _⟩
end Go.Proofs.Ytfejidinfcmfjaa.P
-- Written by a program of this session (xprint.py) over the kit's print.py.
namespace Go.Proofs.Ytfejidinfcmfjaa.P
open Go.RowKit Go.Proofs.YtfejidinfcmfjaaW.PrintWords Go.Proofs.YtfejidinfcmfjaaW.PrintLast Go.Proofs.YtfejidinfcmfjaaW.PrintMore
attribute [local go_sem] max2_int min2_int max_two min_two max_three min_three max_four min_four   -- for this text's walks alone
set_option linter.unusedVariables false
set_option linter.unusedSimpArgs false

/-! ### msg_Is: function 36 -/
def msg_Is.j0 : Nat → Bool → Int → Int → Int → Int → Int → Int → Int → List ByteArray → Option (Bool)
  | 0, _, _, _, _, _, _, _, _, _ => none
  | k + 1, x18, x313000, x313001, x313002, x313003, x313004, x313005, x313006, x313007 => if x18 = true then (some false) else (if x313000 = 1 then ((msg_logged.f x313007 x313005).bind fun t316 => (if t316 = true then (if x313004 = 0 then (some (x313006 == 0)) else (some false)) else (some false))) else (if x313000 = 2 then (if (x313007.length : Int) = 0 then (if x313005 = 0 then (if x313004 = 0 then ((msg_within.f x313006 60).bind fun t317 => (some t317)) else (some false)) else (some false)) else (some false)) else (if x313000 = 3 then ((msg_logged.f x313007 x313005).bind fun t318 => (if t318 = true then ((msg_within.f x313004 x313003).bind fun t319 => (if t319 = true then (some (x313006 == 0)) else (some false))) else (some false))) else (some false))))
def msg_Is.f (k : Nat) (a0_0 : Int) (a0_1 : Int) (a0_2 : Int) (a0_3 : Int) (a0_4 : Int) (a0_5 : Int) (a0_6 : Int) (l0_7 : List ByteArray) : Option (Bool) := (msg_within.f a0_1 6).bind fun t313 => (if t313 = true then ((msg_within.f a0_2 6).bind fun t314 => (if t314 = true then ((msg_within.f a0_3 1000000).bind fun t315 => (msg_Is.j0 k (!t315) a0_0 a0_1 a0_2 a0_3 a0_4 a0_5 a0_6 l0_7)) else (msg_Is.j0 k true a0_0 a0_1 a0_2 a0_3 a0_4 a0_5 a0_6 l0_7))) else (msg_Is.j0 k true a0_0 a0_1 a0_2 a0_3 a0_4 a0_5 a0_6 l0_7))
theorem msg_Is.mono_l : ∀ k, (∀ y0 y1 y2 y3 y4 y5 y6 y7 y8, LeO (msg_Is.j0 k y0 y1 y2 y3 y4 y5 y6 y7 y8) (msg_Is.j0 (k + 1) y0 y1 y2 y3 y4 y5 y6 y7 y8))
  | 0 => fun _ _ _ _ _ _ _ _ _ r h => by simp [msg_Is.j0] at h
  | k + 1 => by
    have ih0 := msg_Is.mono_l k
    · intro y0 y1 y2 y3 y4 y5 y6 y7 y8
      unfold msg_Is.j0
      repeat' first
      | (with_reducible exact ih0 _ _ _ _ _ _ _ _ _)
      | (with_reducible exact LeO.refl _)
      | (with_reducible exact LeO.none _)
      | (with_reducible refine LeO.ite ?_ ?_)
      | (with_reducible refine LeO.bind ?_ (fun _ => ?_))
      | exact ih0 _ _ _ _ _ _ _ _ _
      | exact LeO.none _
      | refine LeO.ite ?_ ?_
      | refine LeO.bind ?_ (fun _ => ?_)
theorem msg_Is.mono : ∀ a0 a1 a2 a3 a4 a5 a6 a7 k, LeO (msg_Is.f k a0 a1 a2 a3 a4 a5 a6 a7) (msg_Is.f (k + 1) a0 a1 a2 a3 a4 a5 a6 a7) := by
  intro a0 a1 a2 a3 a4 a5 a6 a7 k
  have ih0 := msg_Is.mono_l k
  unfold msg_Is.f
  repeat' first
      | (with_reducible exact ih0 _ _ _ _ _ _ _ _ _)
      | (with_reducible exact LeO.refl _)
      | (with_reducible exact LeO.none _)
      | (with_reducible refine LeO.ite ?_ ?_)
      | (with_reducible refine LeO.bind ?_ (fun _ => ?_))
      | exact ih0 _ _ _ _ _ _ _ _ _
      | exact LeO.none _
      | refine LeO.ite ?_ ?_
      | refine LeO.bind ?_ (fun _ => ?_)
set_option maxHeartbeats 8000000 in
set_option maxRecDepth 100000 in
theorem msg_Is.calls (k : Nat) (a0_0 : Int) (a0_1 : Int) (a0_2 : Int) (a0_3 : Int) (a0_4 : Int) (a0_5 : Int) (a0_6 : Int) (A0_7 : Option Addr) (c0_7 : Nat) (l0_7 : List ByteArray) (r : Bool) (w : World) (hr0_7 : Kd.C Kd.string w A0_7 l0_7.length l0_7) (hc0_7 : l0_7.length ≤ c0_7) (h : msg_Is.f k a0_0 a0_1 a0_2 a0_3 a0_4 a0_5 a0_6 l0_7 = some r) :
    Calls Try.prog 36 #[.agg #[.int .i64 a0_0, .int .i64 a0_1, .int .i64 a0_2, .int .i64 a0_3, .int .i64 a0_4, .int .i64 a0_5, .int .i64 a0_6, .slice A0_7 l0_7.length c0_7]] w fun e w' => e = .returned (.bool r) ∧ Below w.heap.size w w' := by
  have hu29 := Try.underlying29
  have HR0_7 := Aside0.mk hr0_7
  have HC0_7 := Aside0.mk hc0_7
  clear hr0_7 hc0_7
  have HB := Aside0.mk (Below.refl w.heap.size w)
  have H : ((msg_within.f a0_1 6).bind fun t313 => (if t313 = true then ((msg_within.f a0_2 6).bind fun t314 => (if t314 = true then ((msg_within.f a0_3 1000000).bind fun t315 => (msg_Is.j0 k (!t315) a0_0 a0_1 a0_2 a0_3 a0_4 a0_5 a0_6 l0_7)) else (msg_Is.j0 k true a0_0 a0_1 a0_2 a0_3 a0_4 a0_5 a0_6 l0_7))) else (msg_Is.j0 k true a0_0 a0_1 a0_2 a0_3 a0_4 a0_5 a0_6 l0_7))) = some r := h
  clear h
  have HC2 := Aside0.mk H
  clear H
  go_enter Try.func36, Try.ntmps36
  go_upto_region 1 with (first | ((with_reducible refine gate_dst (N := 1) rfl ?_); refine box_event ?hg (N := 1) ?hd (cs := #[.int .i64 a0_0, .int .i64 a0_1, .int .i64 a0_2, .int .i64 a0_3, .int .i64 a0_4, .int .i64 a0_5, .int .i64 a0_6, .slice A0_7 l0_7.length c0_7]) (t := 29) ?hr ?_; (case hd => rfl); (case hg => rfl); (case hr => first | (go_simp; done) | (go_simp; rfl)); intro gb312 hg w3 hbox hb; have n0_ := Aside0.mk (below_step (by repeat (first | (with_reducible first | exact HB.out | apply below_alloc | apply pw_below_drewN | apply below_drew1) | exact HB.out)) hb); have n1_ := Aside0.mk (hbox); have n2_ := Aside0.mk ((by rw [hg]; exact (below_size (by repeat (first | (with_reducible first | exact HB.out | apply below_alloc | apply pw_below_drewN | apply below_drew1) | exact HB.out))) : w.heap.size ≤ gb312)); have n3_ := Aside0.mk ((by rw [hg]; exact (below_size (by repeat (first | (with_reducible first | exact HB.out | apply below_alloc | apply pw_below_drewN | apply below_drew1) | exact HB.out))) : w.heap.size ≤ gb312)); clear HB; have HB := n0_; have BK312 := n1_; have GW312 := n2_; have GE312 := n3_; clear n0_ n1_ n2_ n3_; clear hb hbox hg))
  (try simp only [Act.put, List.setIfInBounds_toArray, List.set_cons_zero, List.set_cons_succ])
  go_cut [18] (fun v18 wc => ∃ (kq : Nat) (x18_1 : Bool), v18 = .bool x18_1 ∧ Aside0 (msg_Is.j0 kq x18_1 a0_0 a0_1 a0_2 a0_3 a0_4 a0_5 a0_6 l0_7 = some r) ∧ Aside0 (kq ≤ k) ∧ Aside0 (wc.heap[gb312]? = some (.cells #[.int .i64 a0_0, .int .i64 a0_1, .int .i64 a0_2, .int .i64 a0_3, .int .i64 a0_4, .int .i64 a0_5, .int .i64 a0_6, (.slice A0_7 l0_7.length c0_7)] 29 (0, 0))) ∧ Aside0 (Below w.heap.size w wc))
  case first =>
    have H := HC2.out
    clear HC2
    replace H := Option.bind_eq_some_iff.mp H
    obtain ⟨t313, A40, H⟩ := H
    replace H : (if t313 = true then ((msg_within.f a0_2 6).bind fun t314 => (if t314 = true then ((msg_within.f a0_3 1000000).bind fun t315 => (msg_Is.j0 k (!t315) a0_0 a0_1 a0_2 a0_3 a0_4 a0_5 a0_6 l0_7)) else (msg_Is.j0 k true a0_0 a0_1 a0_2 a0_3 a0_4 a0_5 a0_6 l0_7))) else (msg_Is.j0 k true a0_0 a0_1 a0_2 a0_3 a0_4 a0_5 a0_6 l0_7)) = some r := H
    have A4 := Aside0.mk A40
    clear A40
    by_cases c5 : t313 = true
    · subst c5
      have H1 : ((msg_within.f a0_2 6).bind fun t314 => (if t314 = true then ((msg_within.f a0_3 1000000).bind fun t315 => (msg_Is.j0 k (!t315) a0_0 a0_1 a0_2 a0_3 a0_4 a0_5 a0_6 l0_7)) else (msg_Is.j0 k true a0_0 a0_1 a0_2 a0_3 a0_4 a0_5 a0_6 l0_7))) = some r := by rw [if_pos rfl] at H; exact H
      clear H
      have H := H1
      clear H1
      replace H := Option.bind_eq_some_iff.mp H
      obtain ⟨t314, A60, H⟩ := H
      replace H : (if t314 = true then ((msg_within.f a0_3 1000000).bind fun t315 => (msg_Is.j0 k (!t315) a0_0 a0_1 a0_2 a0_3 a0_4 a0_5 a0_6 l0_7)) else (msg_Is.j0 k true a0_0 a0_1 a0_2 a0_3 a0_4 a0_5 a0_6 l0_7)) = some r := H
      have A6 := Aside0.mk A60
      clear A60
      by_cases c7 : t314 = true
      · subst c7
        have H1 : ((msg_within.f a0_3 1000000).bind fun t315 => (msg_Is.j0 k (!t315) a0_0 a0_1 a0_2 a0_3 a0_4 a0_5 a0_6 l0_7)) = some r := by rw [if_pos rfl] at H; exact H
        clear H
        have H := H1
        clear H1
        replace H := Option.bind_eq_some_iff.mp H
        obtain ⟨t315, A80, H⟩ := H
        replace H : (msg_Is.j0 k (!t315) a0_0 a0_1 a0_2 a0_3 a0_4 a0_5 a0_6 l0_7) = some r := H
        have A8 := Aside0.mk A80
        clear A80
        have H' := Aside0.mk H
        clear H
        have hcz9_0 : w3.cell? ⟨gb312, 0, none⟩ = some (.int .i64 a0_0) := (blk_cell BK312.out 0).trans rfl
        have hcz9_1 : w3.cell? ⟨gb312, 1, none⟩ = some (.int .i64 a0_1) := (blk_cell BK312.out 1).trans rfl
        have hcz9_2 : w3.cell? ⟨gb312, 2, none⟩ = some (.int .i64 a0_2) := (blk_cell BK312.out 2).trans rfl
        have hcz9_3 : w3.cell? ⟨gb312, 3, none⟩ = some (.int .i64 a0_3) := (blk_cell BK312.out 3).trans rfl
        have hcz9_4 : w3.cell? ⟨gb312, 4, none⟩ = some (.int .i64 a0_4) := (blk_cell BK312.out 4).trans rfl
        have hcz9_5 : w3.cell? ⟨gb312, 5, none⟩ = some (.int .i64 a0_5) := (blk_cell BK312.out 5).trans rfl
        have hcz9_6 : w3.cell? ⟨gb312, 6, none⟩ = some (.int .i64 a0_6) := (blk_cell BK312.out 6).trans rfl
        have hcz9_7 : w3.cell? ⟨gb312, 7, none⟩ = some (.slice A0_7 l0_7.length c0_7) := (blk_cell BK312.out 7).trans rfl
        have hfz9_0 := blk_frozen BK312.out 0
        have hfz9_1 := blk_frozen BK312.out 1
        have hfz9_2 := blk_frozen BK312.out 2
        have hfz9_3 := blk_frozen BK312.out 3
        have hfz9_4 := blk_frozen BK312.out 4
        have hfz9_5 := blk_frozen BK312.out 5
        have hfz9_6 := blk_frozen BK312.out 6
        have hfz9_7 := blk_frozen BK312.out 7
        go_wp2_with (first | ((with_reducible refine gate_callee (f := 68) rfl ?_); refine goesL_ (some 5) rfl rfl Try.func68 (by kernel_rfl) rfl #[.int .i64 a0_1, .int .i64 6] rfl (by (try simp only [List.map_toArray, List.map_cons, List.map_nil]); first | done | rfl | (simp only [List.length_drop, List.length_take]; rfl)) ?_; (with_reducible refine (msg_within.calls a0_1 6 true _ A4.out).mono ?_); rintro e w' ⟨rfl, ⟨nd, rfl⟩⟩; refine ⟨_, rfl, ?_⟩) | (go_at_call 68; (with_reducible refine (msg_within.calls a0_2 6 true _ A6.out).mono ?_); rintro e w' ⟨rfl, ⟨nd, rfl⟩⟩) | (go_at_call 68; (with_reducible refine (msg_within.calls a0_3 1000000 t315 _ A8.out).mono ?_); rintro e w' ⟨rfl, ⟨nd, rfl⟩⟩))
        go_meet
        case rel => exact ⟨_, (!t315), (by first | rfl | (simp; done) | (simp [*]; done)), H', ⟨by first | omega | exact Nat.le_refl _⟩, ⟨by (with_reducible repeat (first | refine blk_drewN ?_ _ | refine blk_drew ?_ | refine blk_alloc ?_ _)); exact BK312.out⟩, ⟨by repeat (first | (with_reducible first | exact HB.out | apply below_alloc | apply pw_below_drewN | apply below_drew1 | refine below_set ?_ GE312.out) | exact HB.out)⟩⟩
      · replace c7 := Bool.eq_false_iff.mpr c7
        subst c7
        have H1 : (msg_Is.j0 k true a0_0 a0_1 a0_2 a0_3 a0_4 a0_5 a0_6 l0_7) = some r := by rw [if_neg (show ¬ (false = true) by decide)] at H; exact H
        clear H
        have H := H1
        clear H1
        have H' := Aside0.mk H
        clear H
        have hcz10_0 : w3.cell? ⟨gb312, 0, none⟩ = some (.int .i64 a0_0) := (blk_cell BK312.out 0).trans rfl
        have hcz10_1 : w3.cell? ⟨gb312, 1, none⟩ = some (.int .i64 a0_1) := (blk_cell BK312.out 1).trans rfl
        have hcz10_2 : w3.cell? ⟨gb312, 2, none⟩ = some (.int .i64 a0_2) := (blk_cell BK312.out 2).trans rfl
        have hcz10_3 : w3.cell? ⟨gb312, 3, none⟩ = some (.int .i64 a0_3) := (blk_cell BK312.out 3).trans rfl
        have hcz10_4 : w3.cell? ⟨gb312, 4, none⟩ = some (.int .i64 a0_4) := (blk_cell BK312.out 4).trans rfl
        have hcz10_5 : w3.cell? ⟨gb312, 5, none⟩ = some (.int .i64 a0_5) := (blk_cell BK312.out 5).trans rfl
        have hcz10_6 : w3.cell? ⟨gb312, 6, none⟩ = some (.int .i64 a0_6) := (blk_cell BK312.out 6).trans rfl
        have hcz10_7 : w3.cell? ⟨gb312, 7, none⟩ = some (.slice A0_7 l0_7.length c0_7) := (blk_cell BK312.out 7).trans rfl
        have hfz10_0 := blk_frozen BK312.out 0
        have hfz10_1 := blk_frozen BK312.out 1
        have hfz10_2 := blk_frozen BK312.out 2
        have hfz10_3 := blk_frozen BK312.out 3
        have hfz10_4 := blk_frozen BK312.out 4
        have hfz10_5 := blk_frozen BK312.out 5
        have hfz10_6 := blk_frozen BK312.out 6
        have hfz10_7 := blk_frozen BK312.out 7
        go_wp2_with (first | ((with_reducible refine gate_callee (f := 68) rfl ?_); refine goesL_ (some 5) rfl rfl Try.func68 (by kernel_rfl) rfl #[.int .i64 a0_1, .int .i64 6] rfl (by (try simp only [List.map_toArray, List.map_cons, List.map_nil]); first | done | rfl | (simp only [List.length_drop, List.length_take]; rfl)) ?_; (with_reducible refine (msg_within.calls a0_1 6 true _ A4.out).mono ?_); rintro e w' ⟨rfl, ⟨nd, rfl⟩⟩; refine ⟨_, rfl, ?_⟩) | (go_at_call 68; (with_reducible refine (msg_within.calls a0_2 6 false _ A6.out).mono ?_); rintro e w' ⟨rfl, ⟨nd, rfl⟩⟩))
        go_meet
        case rel => exact ⟨_, (true), (by first | rfl | (simp; done) | (simp [*]; done)), H', ⟨by first | omega | exact Nat.le_refl _⟩, ⟨by (with_reducible repeat (first | refine blk_drewN ?_ _ | refine blk_drew ?_ | refine blk_alloc ?_ _)); exact BK312.out⟩, ⟨by repeat (first | (with_reducible first | exact HB.out | apply below_alloc | apply pw_below_drewN | apply below_drew1 | refine below_set ?_ GE312.out) | exact HB.out)⟩⟩
    · replace c5 := Bool.eq_false_iff.mpr c5
      subst c5
      have H1 : (msg_Is.j0 k true a0_0 a0_1 a0_2 a0_3 a0_4 a0_5 a0_6 l0_7) = some r := by rw [if_neg (show ¬ (false = true) by decide)] at H; exact H
      clear H
      have H := H1
      clear H1
      have H' := Aside0.mk H
      clear H
      have hcz11_0 : w3.cell? ⟨gb312, 0, none⟩ = some (.int .i64 a0_0) := (blk_cell BK312.out 0).trans rfl
      have hcz11_1 : w3.cell? ⟨gb312, 1, none⟩ = some (.int .i64 a0_1) := (blk_cell BK312.out 1).trans rfl
      have hcz11_2 : w3.cell? ⟨gb312, 2, none⟩ = some (.int .i64 a0_2) := (blk_cell BK312.out 2).trans rfl
      have hcz11_3 : w3.cell? ⟨gb312, 3, none⟩ = some (.int .i64 a0_3) := (blk_cell BK312.out 3).trans rfl
      have hcz11_4 : w3.cell? ⟨gb312, 4, none⟩ = some (.int .i64 a0_4) := (blk_cell BK312.out 4).trans rfl
      have hcz11_5 : w3.cell? ⟨gb312, 5, none⟩ = some (.int .i64 a0_5) := (blk_cell BK312.out 5).trans rfl
      have hcz11_6 : w3.cell? ⟨gb312, 6, none⟩ = some (.int .i64 a0_6) := (blk_cell BK312.out 6).trans rfl
      have hcz11_7 : w3.cell? ⟨gb312, 7, none⟩ = some (.slice A0_7 l0_7.length c0_7) := (blk_cell BK312.out 7).trans rfl
      have hfz11_0 := blk_frozen BK312.out 0
      have hfz11_1 := blk_frozen BK312.out 1
      have hfz11_2 := blk_frozen BK312.out 2
      have hfz11_3 := blk_frozen BK312.out 3
      have hfz11_4 := blk_frozen BK312.out 4
      have hfz11_5 := blk_frozen BK312.out 5
      have hfz11_6 := blk_frozen BK312.out 6
      have hfz11_7 := blk_frozen BK312.out 7
      go_wp2_with (first | ((with_reducible refine gate_callee (f := 68) rfl ?_); refine goesL_ (some 5) rfl rfl Try.func68 (by kernel_rfl) rfl #[.int .i64 a0_1, .int .i64 6] rfl (by (try simp only [List.map_toArray, List.map_cons, List.map_nil]); first | done | rfl | (simp only [List.length_drop, List.length_take]; rfl)) ?_; (with_reducible refine (msg_within.calls a0_1 6 false _ A4.out).mono ?_); rintro e w' ⟨rfl, ⟨nd, rfl⟩⟩; refine ⟨_, rfl, ?_⟩))
      go_meet
      case rel => exact ⟨_, (true), (by first | rfl | (simp; done) | (simp [*]; done)), H', ⟨by first | omega | exact Nat.le_refl _⟩, ⟨by (with_reducible repeat (first | refine blk_drewN ?_ _ | refine blk_drew ?_ | refine blk_alloc ?_ _)); exact BK312.out⟩, ⟨by repeat (first | (with_reducible first | exact HB.out | apply below_alloc | apply pw_below_drewN | apply below_drew1 | refine below_set ?_ GE312.out) | exact HB.out)⟩⟩
  case rest =>
    clear HC2
    try clear p2
    try clear c3
    try clear c5
    try clear c6
    try clear c7
    try clear hcz10_0
    try clear hcz10_1
    try clear hcz10_2
    try clear hcz10_3
    try clear hcz10_4
    try clear hcz10_5
    try clear hcz10_6
    try clear hcz10_7
    try clear hcz11_0
    try clear hcz11_1
    try clear hcz11_2
    try clear hcz11_3
    try clear hcz11_4
    try clear hcz11_5
    try clear hcz11_6
    try clear hcz11_7
    try clear hcz9_0
    try clear hcz9_1
    try clear hcz9_2
    try clear hcz9_3
    try clear hcz9_4
    try clear hcz9_5
    try clear hcz9_6
    try clear hcz9_7
    try clear hfz10_0
    try clear hfz10_1
    try clear hfz10_2
    try clear hfz10_3
    try clear hfz10_4
    try clear hfz10_5
    try clear hfz10_6
    try clear hfz10_7
    try clear hfz11_0
    try clear hfz11_1
    try clear hfz11_2
    try clear hfz11_3
    try clear hfz11_4
    try clear hfz11_5
    try clear hfz11_6
    try clear hfz11_7
    try clear hfz9_0
    try clear hfz9_1
    try clear hfz9_2
    try clear hfz9_3
    try clear hfz9_4
    try clear hfz9_5
    try clear hfz9_6
    try clear hfz9_7
    obtain ⟨kq, x18_1, rfl, HA, HJ1, BK312, HB⟩ := hcut
    cases kq with
    | zero => exact absurd HA.out (by simp [msg_Is.j0])
    | succ kj1 =>
      have H := HA.out
      clear HA
      simp only [msg_Is.j0] at H
      by_cases c12 : x18_1 = true
      · subst c12
        have H1 : (some false) = some r := by rw [if_pos rfl] at H; exact H
        clear H
        have H := H1
        clear H1
        obtain rfl := Option.some.inj H
        go_wp2
        go_ret
        exact ⟨by first | rfl | (simp [errW_none, errW_some] <;> rfl) | (simp [*, errW_none, errW_some] <;> rfl), by repeat (first | (with_reducible first | exact HB.out | apply below_alloc | apply pw_below_drewN | apply below_drew1 | refine below_set ?_ GE312.out) | exact HB.out)⟩
      · replace c12 := Bool.eq_false_iff.mpr c12
        subst c12
        have H1 : (if a0_0 = 1 then ((msg_logged.f l0_7 a0_5).bind fun t316 => (if t316 = true then (if a0_4 = 0 then (some (a0_6 == 0)) else (some false)) else (some false))) else (if a0_0 = 2 then (if (l0_7.length : Int) = 0 then (if a0_5 = 0 then (if a0_4 = 0 then ((msg_within.f a0_6 60).bind fun t317 => (some t317)) else (some false)) else (some false)) else (some false)) else (if a0_0 = 3 then ((msg_logged.f l0_7 a0_5).bind fun t318 => (if t318 = true then ((msg_within.f a0_4 a0_3).bind fun t319 => (if t319 = true then (some (a0_6 == 0)) else (some false))) else (some false))) else (some false)))) = some r := by rw [if_neg (show ¬ (false = true) by decide)] at H; exact H
        clear H
        have H := H1
        clear H1
        by_cases c13 : a0_0 = 1
        · rw [if_pos c13] at H
          have c13b0 : (a0_0 == 1) = true := beq_iff_eq.mpr c13
          have c13b1 : (a0_0 != 1) = false := bne_eq_false_iff_eq.mpr c13
          clear c13
          replace H := Option.bind_eq_some_iff.mp H
          obtain ⟨t316, A140, H⟩ := H
          replace H : (if t316 = true then (if a0_4 = 0 then (some (a0_6 == 0)) else (some false)) else (some false)) = some r := H
          have A14 := Aside0.mk A140
          clear A140
          by_cases c15 : t316 = true
          · subst c15
            have H1 : (if a0_4 = 0 then (some (a0_6 == 0)) else (some false)) = some r := by rw [if_pos rfl] at H; exact H
            clear H
            have H := H1
            clear H1
            by_cases c16 : a0_4 = 0
            · rw [if_pos c16] at H
              have c16b0 : (a0_4 == 0) = true := beq_iff_eq.mpr c16
              have c16b1 : (a0_4 != 0) = false := bne_eq_false_iff_eq.mpr c16
              clear c16
              obtain rfl := Option.some.inj H
              have hcz17_0 : wc.cell? ⟨gb312, 0, none⟩ = some (.int .i64 a0_0) := (blk_cell BK312.out 0).trans rfl
              have hcz17_1 : wc.cell? ⟨gb312, 1, none⟩ = some (.int .i64 a0_1) := (blk_cell BK312.out 1).trans rfl
              have hcz17_2 : wc.cell? ⟨gb312, 2, none⟩ = some (.int .i64 a0_2) := (blk_cell BK312.out 2).trans rfl
              have hcz17_3 : wc.cell? ⟨gb312, 3, none⟩ = some (.int .i64 a0_3) := (blk_cell BK312.out 3).trans rfl
              have hcz17_4 : wc.cell? ⟨gb312, 4, none⟩ = some (.int .i64 a0_4) := (blk_cell BK312.out 4).trans rfl
              have hcz17_5 : wc.cell? ⟨gb312, 5, none⟩ = some (.int .i64 a0_5) := (blk_cell BK312.out 5).trans rfl
              have hcz17_6 : wc.cell? ⟨gb312, 6, none⟩ = some (.int .i64 a0_6) := (blk_cell BK312.out 6).trans rfl
              have hcz17_7 : wc.cell? ⟨gb312, 7, none⟩ = some (.slice A0_7 l0_7.length c0_7) := (blk_cell BK312.out 7).trans rfl
              have hfz17_0 := blk_frozen BK312.out 0
              have hfz17_1 := blk_frozen BK312.out 1
              have hfz17_2 := blk_frozen BK312.out 2
              have hfz17_3 := blk_frozen BK312.out 3
              have hfz17_4 := blk_frozen BK312.out 4
              have hfz17_5 := blk_frozen BK312.out 5
              have hfz17_6 := blk_frozen BK312.out 6
              have hfz17_7 := blk_frozen BK312.out 7
              go_wp2_with (first | ((with_reducible refine gate_callee (f := 69) rfl ?_); refine goesL_ (some 27) rfl rfl Try.func69 (by kernel_rfl) rfl #[.slice A0_7 l0_7.length c0_7, .int .i64 a0_5] rfl (by (try simp only [List.map_toArray, List.map_cons, List.map_nil]); first | done | rfl | (simp only [List.length_drop, List.length_take]; rfl)) ?_; (with_reducible refine (msg_logged.calls _ _ l0_7 a0_5 true _ ?side1 ?side2 A14.out).mono ?_); (case side1 => repeat (first | exact (Kd.C_below HR0_7.out HB.out) | (with_reducible refine Kd.C_alloc ?_ _) | (with_reducible refine Kd.C_drewN ?_ _) | (with_reducible refine Kd.C_drew ?_))); (case side2 => exact HC0_7.out); rintro e w18 ⟨rfl, hb⟩; refine ⟨_, rfl, ?_⟩; have n0_ := Aside0.mk (blk_below (g := gb312) (o := .cells #[.int .i64 a0_0, .int .i64 a0_1, .int .i64 a0_2, .int .i64 a0_3, .int .i64 a0_4, .int .i64 a0_5, .int .i64 a0_6, .slice A0_7 l0_7.length c0_7] 29 (0, 0)) (by (with_reducible repeat (first | refine blk_drewN ?_ _ | refine blk_drew ?_ | refine blk_alloc ?_ _)); exact BK312.out) hb); have n1_ := Aside0.mk (below_step (by repeat (first | (with_reducible first | exact HB.out | apply below_alloc | apply pw_below_drewN | apply below_drew1 | refine below_set ?_ GE312.out) | exact HB.out)) hb); clear BK312; clear HB; have BK312 := n0_; have HB := n1_; clear n0_ n1_; (try clear hb); (try clear hb2); (try clear hk); (try clear hi); have hcz19_0 : w18.cell? ⟨gb312, 0, none⟩ = some (.int .i64 a0_0) := (blk_cell BK312.out 0).trans rfl; have hcz19_1 : w18.cell? ⟨gb312, 1, none⟩ = some (.int .i64 a0_1) := (blk_cell BK312.out 1).trans rfl; have hcz19_2 : w18.cell? ⟨gb312, 2, none⟩ = some (.int .i64 a0_2) := (blk_cell BK312.out 2).trans rfl; have hcz19_3 : w18.cell? ⟨gb312, 3, none⟩ = some (.int .i64 a0_3) := (blk_cell BK312.out 3).trans rfl; have hcz19_4 : w18.cell? ⟨gb312, 4, none⟩ = some (.int .i64 a0_4) := (blk_cell BK312.out 4).trans rfl; have hcz19_5 : w18.cell? ⟨gb312, 5, none⟩ = some (.int .i64 a0_5) := (blk_cell BK312.out 5).trans rfl; have hcz19_6 : w18.cell? ⟨gb312, 6, none⟩ = some (.int .i64 a0_6) := (blk_cell BK312.out 6).trans rfl; have hcz19_7 : w18.cell? ⟨gb312, 7, none⟩ = some (.slice A0_7 l0_7.length c0_7) := (blk_cell BK312.out 7).trans rfl; have hfz19_0 := blk_frozen BK312.out 0; have hfz19_1 := blk_frozen BK312.out 1; have hfz19_2 := blk_frozen BK312.out 2; have hfz19_3 := blk_frozen BK312.out 3; have hfz19_4 := blk_frozen BK312.out 4; have hfz19_5 := blk_frozen BK312.out 5; have hfz19_6 := blk_frozen BK312.out 6; have hfz19_7 := blk_frozen BK312.out 7))
              go_ret
              exact ⟨by first | rfl | (simp [errW_none, errW_some] <;> rfl) | (simp [*, errW_none, errW_some] <;> rfl), by repeat (first | (with_reducible first | exact HB.out | apply below_alloc | apply pw_below_drewN | apply below_drew1 | refine below_set ?_ GE312.out) | exact HB.out)⟩
            · rw [if_neg c16] at H
              have c16b0 : (a0_4 == 0) = false := beq_eq_false_iff_ne.mpr c16
              have c16b1 : (a0_4 != 0) = true := bne_iff_ne.mpr c16
              obtain rfl := Option.some.inj H
              have hcz20_0 : wc.cell? ⟨gb312, 0, none⟩ = some (.int .i64 a0_0) := (blk_cell BK312.out 0).trans rfl
              have hcz20_1 : wc.cell? ⟨gb312, 1, none⟩ = some (.int .i64 a0_1) := (blk_cell BK312.out 1).trans rfl
              have hcz20_2 : wc.cell? ⟨gb312, 2, none⟩ = some (.int .i64 a0_2) := (blk_cell BK312.out 2).trans rfl
              have hcz20_3 : wc.cell? ⟨gb312, 3, none⟩ = some (.int .i64 a0_3) := (blk_cell BK312.out 3).trans rfl
              have hcz20_4 : wc.cell? ⟨gb312, 4, none⟩ = some (.int .i64 a0_4) := (blk_cell BK312.out 4).trans rfl
              have hcz20_5 : wc.cell? ⟨gb312, 5, none⟩ = some (.int .i64 a0_5) := (blk_cell BK312.out 5).trans rfl
              have hcz20_6 : wc.cell? ⟨gb312, 6, none⟩ = some (.int .i64 a0_6) := (blk_cell BK312.out 6).trans rfl
              have hcz20_7 : wc.cell? ⟨gb312, 7, none⟩ = some (.slice A0_7 l0_7.length c0_7) := (blk_cell BK312.out 7).trans rfl
              have hfz20_0 := blk_frozen BK312.out 0
              have hfz20_1 := blk_frozen BK312.out 1
              have hfz20_2 := blk_frozen BK312.out 2
              have hfz20_3 := blk_frozen BK312.out 3
              have hfz20_4 := blk_frozen BK312.out 4
              have hfz20_5 := blk_frozen BK312.out 5
              have hfz20_6 := blk_frozen BK312.out 6
              have hfz20_7 := blk_frozen BK312.out 7
              go_wp2_with (first | ((with_reducible refine gate_callee (f := 69) rfl ?_); refine goesL_ (some 27) rfl rfl Try.func69 (by kernel_rfl) rfl #[.slice A0_7 l0_7.length c0_7, .int .i64 a0_5] rfl (by (try simp only [List.map_toArray, List.map_cons, List.map_nil]); first | done | rfl | (simp only [List.length_drop, List.length_take]; rfl)) ?_; (with_reducible refine (msg_logged.calls _ _ l0_7 a0_5 true _ ?side1 ?side2 A14.out).mono ?_); (case side1 => repeat (first | exact (Kd.C_below HR0_7.out HB.out) | (with_reducible refine Kd.C_alloc ?_ _) | (with_reducible refine Kd.C_drewN ?_ _) | (with_reducible refine Kd.C_drew ?_))); (case side2 => exact HC0_7.out); rintro e w21 ⟨rfl, hb⟩; refine ⟨_, rfl, ?_⟩; have n0_ := Aside0.mk (blk_below (g := gb312) (o := .cells #[.int .i64 a0_0, .int .i64 a0_1, .int .i64 a0_2, .int .i64 a0_3, .int .i64 a0_4, .int .i64 a0_5, .int .i64 a0_6, .slice A0_7 l0_7.length c0_7] 29 (0, 0)) (by (with_reducible repeat (first | refine blk_drewN ?_ _ | refine blk_drew ?_ | refine blk_alloc ?_ _)); exact BK312.out) hb); have n1_ := Aside0.mk (below_step (by repeat (first | (with_reducible first | exact HB.out | apply below_alloc | apply pw_below_drewN | apply below_drew1 | refine below_set ?_ GE312.out) | exact HB.out)) hb); clear BK312; clear HB; have BK312 := n0_; have HB := n1_; clear n0_ n1_; (try clear hb); (try clear hb2); (try clear hk); (try clear hi); have hcz22_0 : w21.cell? ⟨gb312, 0, none⟩ = some (.int .i64 a0_0) := (blk_cell BK312.out 0).trans rfl; have hcz22_1 : w21.cell? ⟨gb312, 1, none⟩ = some (.int .i64 a0_1) := (blk_cell BK312.out 1).trans rfl; have hcz22_2 : w21.cell? ⟨gb312, 2, none⟩ = some (.int .i64 a0_2) := (blk_cell BK312.out 2).trans rfl; have hcz22_3 : w21.cell? ⟨gb312, 3, none⟩ = some (.int .i64 a0_3) := (blk_cell BK312.out 3).trans rfl; have hcz22_4 : w21.cell? ⟨gb312, 4, none⟩ = some (.int .i64 a0_4) := (blk_cell BK312.out 4).trans rfl; have hcz22_5 : w21.cell? ⟨gb312, 5, none⟩ = some (.int .i64 a0_5) := (blk_cell BK312.out 5).trans rfl; have hcz22_6 : w21.cell? ⟨gb312, 6, none⟩ = some (.int .i64 a0_6) := (blk_cell BK312.out 6).trans rfl; have hcz22_7 : w21.cell? ⟨gb312, 7, none⟩ = some (.slice A0_7 l0_7.length c0_7) := (blk_cell BK312.out 7).trans rfl; have hfz22_0 := blk_frozen BK312.out 0; have hfz22_1 := blk_frozen BK312.out 1; have hfz22_2 := blk_frozen BK312.out 2; have hfz22_3 := blk_frozen BK312.out 3; have hfz22_4 := blk_frozen BK312.out 4; have hfz22_5 := blk_frozen BK312.out 5; have hfz22_6 := blk_frozen BK312.out 6; have hfz22_7 := blk_frozen BK312.out 7))
              go_ret
              exact ⟨by first | rfl | (simp [errW_none, errW_some] <;> rfl) | (simp [*, errW_none, errW_some] <;> rfl), by repeat (first | (with_reducible first | exact HB.out | apply below_alloc | apply pw_below_drewN | apply below_drew1 | refine below_set ?_ GE312.out) | exact HB.out)⟩
          · replace c15 := Bool.eq_false_iff.mpr c15
            subst c15
            have H1 : (some false) = some r := by rw [if_neg (show ¬ (false = true) by decide)] at H; exact H
            clear H
            have H := H1
            clear H1
            obtain rfl := Option.some.inj H
            have hcz23_0 : wc.cell? ⟨gb312, 0, none⟩ = some (.int .i64 a0_0) := (blk_cell BK312.out 0).trans rfl
            have hcz23_1 : wc.cell? ⟨gb312, 1, none⟩ = some (.int .i64 a0_1) := (blk_cell BK312.out 1).trans rfl
            have hcz23_2 : wc.cell? ⟨gb312, 2, none⟩ = some (.int .i64 a0_2) := (blk_cell BK312.out 2).trans rfl
            have hcz23_3 : wc.cell? ⟨gb312, 3, none⟩ = some (.int .i64 a0_3) := (blk_cell BK312.out 3).trans rfl
            have hcz23_4 : wc.cell? ⟨gb312, 4, none⟩ = some (.int .i64 a0_4) := (blk_cell BK312.out 4).trans rfl
            have hcz23_5 : wc.cell? ⟨gb312, 5, none⟩ = some (.int .i64 a0_5) := (blk_cell BK312.out 5).trans rfl
            have hcz23_6 : wc.cell? ⟨gb312, 6, none⟩ = some (.int .i64 a0_6) := (blk_cell BK312.out 6).trans rfl
            have hcz23_7 : wc.cell? ⟨gb312, 7, none⟩ = some (.slice A0_7 l0_7.length c0_7) := (blk_cell BK312.out 7).trans rfl
            have hfz23_0 := blk_frozen BK312.out 0
            have hfz23_1 := blk_frozen BK312.out 1
            have hfz23_2 := blk_frozen BK312.out 2
            have hfz23_3 := blk_frozen BK312.out 3
            have hfz23_4 := blk_frozen BK312.out 4
            have hfz23_5 := blk_frozen BK312.out 5
            have hfz23_6 := blk_frozen BK312.out 6
            have hfz23_7 := blk_frozen BK312.out 7
            go_wp2_with (first | ((with_reducible refine gate_callee (f := 69) rfl ?_); refine goesL_ (some 27) rfl rfl Try.func69 (by kernel_rfl) rfl #[.slice A0_7 l0_7.length c0_7, .int .i64 a0_5] rfl (by (try simp only [List.map_toArray, List.map_cons, List.map_nil]); first | done | rfl | (simp only [List.length_drop, List.length_take]; rfl)) ?_; (with_reducible refine (msg_logged.calls _ _ l0_7 a0_5 false _ ?side1 ?side2 A14.out).mono ?_); (case side1 => repeat (first | exact (Kd.C_below HR0_7.out HB.out) | (with_reducible refine Kd.C_alloc ?_ _) | (with_reducible refine Kd.C_drewN ?_ _) | (with_reducible refine Kd.C_drew ?_))); (case side2 => exact HC0_7.out); rintro e w24 ⟨rfl, hb⟩; refine ⟨_, rfl, ?_⟩; have n0_ := Aside0.mk (blk_below (g := gb312) (o := .cells #[.int .i64 a0_0, .int .i64 a0_1, .int .i64 a0_2, .int .i64 a0_3, .int .i64 a0_4, .int .i64 a0_5, .int .i64 a0_6, .slice A0_7 l0_7.length c0_7] 29 (0, 0)) (by (with_reducible repeat (first | refine blk_drewN ?_ _ | refine blk_drew ?_ | refine blk_alloc ?_ _)); exact BK312.out) hb); have n1_ := Aside0.mk (below_step (by repeat (first | (with_reducible first | exact HB.out | apply below_alloc | apply pw_below_drewN | apply below_drew1 | refine below_set ?_ GE312.out) | exact HB.out)) hb); clear BK312; clear HB; have BK312 := n0_; have HB := n1_; clear n0_ n1_; (try clear hb); (try clear hb2); (try clear hk); (try clear hi)))
            go_ret
            exact ⟨by first | rfl | (simp [errW_none, errW_some] <;> rfl) | (simp [*, errW_none, errW_some] <;> rfl), by repeat (first | (with_reducible first | exact HB.out | apply below_alloc | apply pw_below_drewN | apply below_drew1 | refine below_set ?_ GE312.out) | exact HB.out)⟩
        · rw [if_neg c13] at H
          have c13b0 : (a0_0 == 1) = false := beq_eq_false_iff_ne.mpr c13
          have c13b1 : (a0_0 != 1) = true := bne_iff_ne.mpr c13
          by_cases c25 : a0_0 = 2
          · rw [if_pos c25] at H
            have c25b0 : (a0_0 == 2) = true := beq_iff_eq.mpr c25
            have c25b1 : (a0_0 != 2) = false := bne_eq_false_iff_eq.mpr c25
            clear c25
            by_cases c26 : (l0_7.length : Int) = 0
            · rw [if_pos c26] at H
              have c26b0 : ((l0_7.length : Int) == 0) = true := beq_iff_eq.mpr c26
              have c26b1 : ((l0_7.length : Int) != 0) = false := bne_eq_false_iff_eq.mpr c26
              clear c26
              by_cases c27 : a0_5 = 0
              · rw [if_pos c27] at H
                have c27b0 : (a0_5 == 0) = true := beq_iff_eq.mpr c27
                have c27b1 : (a0_5 != 0) = false := bne_eq_false_iff_eq.mpr c27
                clear c27
                by_cases c28 : a0_4 = 0
                · rw [if_pos c28] at H
                  have c28b0 : (a0_4 == 0) = true := beq_iff_eq.mpr c28
                  have c28b1 : (a0_4 != 0) = false := bne_eq_false_iff_eq.mpr c28
                  clear c28
                  replace H := Option.bind_eq_some_iff.mp H
                  obtain ⟨t317, A290, H⟩ := H
                  replace H : (some t317) = some r := H
                  have A29 := Aside0.mk A290
                  clear A290
                  obtain rfl := Option.some.inj H
                  have hcz30_0 : wc.cell? ⟨gb312, 0, none⟩ = some (.int .i64 a0_0) := (blk_cell BK312.out 0).trans rfl
                  have hcz30_1 : wc.cell? ⟨gb312, 1, none⟩ = some (.int .i64 a0_1) := (blk_cell BK312.out 1).trans rfl
                  have hcz30_2 : wc.cell? ⟨gb312, 2, none⟩ = some (.int .i64 a0_2) := (blk_cell BK312.out 2).trans rfl
                  have hcz30_3 : wc.cell? ⟨gb312, 3, none⟩ = some (.int .i64 a0_3) := (blk_cell BK312.out 3).trans rfl
                  have hcz30_4 : wc.cell? ⟨gb312, 4, none⟩ = some (.int .i64 a0_4) := (blk_cell BK312.out 4).trans rfl
                  have hcz30_5 : wc.cell? ⟨gb312, 5, none⟩ = some (.int .i64 a0_5) := (blk_cell BK312.out 5).trans rfl
                  have hcz30_6 : wc.cell? ⟨gb312, 6, none⟩ = some (.int .i64 a0_6) := (blk_cell BK312.out 6).trans rfl
                  have hcz30_7 : wc.cell? ⟨gb312, 7, none⟩ = some (.slice A0_7 l0_7.length c0_7) := (blk_cell BK312.out 7).trans rfl
                  have hfz30_0 := blk_frozen BK312.out 0
                  have hfz30_1 := blk_frozen BK312.out 1
                  have hfz30_2 := blk_frozen BK312.out 2
                  have hfz30_3 := blk_frozen BK312.out 3
                  have hfz30_4 := blk_frozen BK312.out 4
                  have hfz30_5 := blk_frozen BK312.out 5
                  have hfz30_6 := blk_frozen BK312.out 6
                  have hfz30_7 := blk_frozen BK312.out 7
                  go_wp2_with (first | (go_at_call 68; (with_reducible refine (msg_within.calls a0_6 60 t317 _ A29.out).mono ?_); rintro e w' ⟨rfl, ⟨nd, rfl⟩⟩))
                  go_ret
                  exact ⟨by first | rfl | (simp [errW_none, errW_some] <;> rfl) | (simp [*, errW_none, errW_some] <;> rfl), by repeat (first | (with_reducible first | exact HB.out | apply below_alloc | apply pw_below_drewN | apply below_drew1 | refine below_set ?_ GE312.out) | exact HB.out)⟩
                · rw [if_neg c28] at H
                  have c28b0 : (a0_4 == 0) = false := beq_eq_false_iff_ne.mpr c28
                  have c28b1 : (a0_4 != 0) = true := bne_iff_ne.mpr c28
                  obtain rfl := Option.some.inj H
                  have hcz31_0 : wc.cell? ⟨gb312, 0, none⟩ = some (.int .i64 a0_0) := (blk_cell BK312.out 0).trans rfl
                  have hcz31_1 : wc.cell? ⟨gb312, 1, none⟩ = some (.int .i64 a0_1) := (blk_cell BK312.out 1).trans rfl
                  have hcz31_2 : wc.cell? ⟨gb312, 2, none⟩ = some (.int .i64 a0_2) := (blk_cell BK312.out 2).trans rfl
                  have hcz31_3 : wc.cell? ⟨gb312, 3, none⟩ = some (.int .i64 a0_3) := (blk_cell BK312.out 3).trans rfl
                  have hcz31_4 : wc.cell? ⟨gb312, 4, none⟩ = some (.int .i64 a0_4) := (blk_cell BK312.out 4).trans rfl
                  have hcz31_5 : wc.cell? ⟨gb312, 5, none⟩ = some (.int .i64 a0_5) := (blk_cell BK312.out 5).trans rfl
                  have hcz31_6 : wc.cell? ⟨gb312, 6, none⟩ = some (.int .i64 a0_6) := (blk_cell BK312.out 6).trans rfl
                  have hcz31_7 : wc.cell? ⟨gb312, 7, none⟩ = some (.slice A0_7 l0_7.length c0_7) := (blk_cell BK312.out 7).trans rfl
                  have hfz31_0 := blk_frozen BK312.out 0
                  have hfz31_1 := blk_frozen BK312.out 1
                  have hfz31_2 := blk_frozen BK312.out 2
                  have hfz31_3 := blk_frozen BK312.out 3
                  have hfz31_4 := blk_frozen BK312.out 4
                  have hfz31_5 := blk_frozen BK312.out 5
                  have hfz31_6 := blk_frozen BK312.out 6
                  have hfz31_7 := blk_frozen BK312.out 7
                  go_wp2
                  go_ret
                  exact ⟨by first | rfl | (simp [errW_none, errW_some] <;> rfl) | (simp [*, errW_none, errW_some] <;> rfl), by repeat (first | (with_reducible first | exact HB.out | apply below_alloc | apply pw_below_drewN | apply below_drew1 | refine below_set ?_ GE312.out) | exact HB.out)⟩
              · rw [if_neg c27] at H
                have c27b0 : (a0_5 == 0) = false := beq_eq_false_iff_ne.mpr c27
                have c27b1 : (a0_5 != 0) = true := bne_iff_ne.mpr c27
                obtain rfl := Option.some.inj H
                have hcz32_0 : wc.cell? ⟨gb312, 0, none⟩ = some (.int .i64 a0_0) := (blk_cell BK312.out 0).trans rfl
                have hcz32_1 : wc.cell? ⟨gb312, 1, none⟩ = some (.int .i64 a0_1) := (blk_cell BK312.out 1).trans rfl
                have hcz32_2 : wc.cell? ⟨gb312, 2, none⟩ = some (.int .i64 a0_2) := (blk_cell BK312.out 2).trans rfl
                have hcz32_3 : wc.cell? ⟨gb312, 3, none⟩ = some (.int .i64 a0_3) := (blk_cell BK312.out 3).trans rfl
                have hcz32_4 : wc.cell? ⟨gb312, 4, none⟩ = some (.int .i64 a0_4) := (blk_cell BK312.out 4).trans rfl
                have hcz32_5 : wc.cell? ⟨gb312, 5, none⟩ = some (.int .i64 a0_5) := (blk_cell BK312.out 5).trans rfl
                have hcz32_6 : wc.cell? ⟨gb312, 6, none⟩ = some (.int .i64 a0_6) := (blk_cell BK312.out 6).trans rfl
                have hcz32_7 : wc.cell? ⟨gb312, 7, none⟩ = some (.slice A0_7 l0_7.length c0_7) := (blk_cell BK312.out 7).trans rfl
                have hfz32_0 := blk_frozen BK312.out 0
                have hfz32_1 := blk_frozen BK312.out 1
                have hfz32_2 := blk_frozen BK312.out 2
                have hfz32_3 := blk_frozen BK312.out 3
                have hfz32_4 := blk_frozen BK312.out 4
                have hfz32_5 := blk_frozen BK312.out 5
                have hfz32_6 := blk_frozen BK312.out 6
                have hfz32_7 := blk_frozen BK312.out 7
                go_wp2
                go_ret
                exact ⟨by first | rfl | (simp [errW_none, errW_some] <;> rfl) | (simp [*, errW_none, errW_some] <;> rfl), by repeat (first | (with_reducible first | exact HB.out | apply below_alloc | apply pw_below_drewN | apply below_drew1 | refine below_set ?_ GE312.out) | exact HB.out)⟩
            · rw [if_neg c26] at H
              have c26b0 : ((l0_7.length : Int) == 0) = false := beq_eq_false_iff_ne.mpr c26
              have c26b1 : ((l0_7.length : Int) != 0) = true := bne_iff_ne.mpr c26
              have c26b2 : ¬ (l0_7 = []) := fun h_ => c26 (by rw [h_]; rfl)
              obtain rfl := Option.some.inj H
              have hcz33_0 : wc.cell? ⟨gb312, 0, none⟩ = some (.int .i64 a0_0) := (blk_cell BK312.out 0).trans rfl
              have hcz33_1 : wc.cell? ⟨gb312, 1, none⟩ = some (.int .i64 a0_1) := (blk_cell BK312.out 1).trans rfl
              have hcz33_2 : wc.cell? ⟨gb312, 2, none⟩ = some (.int .i64 a0_2) := (blk_cell BK312.out 2).trans rfl
              have hcz33_3 : wc.cell? ⟨gb312, 3, none⟩ = some (.int .i64 a0_3) := (blk_cell BK312.out 3).trans rfl
              have hcz33_4 : wc.cell? ⟨gb312, 4, none⟩ = some (.int .i64 a0_4) := (blk_cell BK312.out 4).trans rfl
              have hcz33_5 : wc.cell? ⟨gb312, 5, none⟩ = some (.int .i64 a0_5) := (blk_cell BK312.out 5).trans rfl
              have hcz33_6 : wc.cell? ⟨gb312, 6, none⟩ = some (.int .i64 a0_6) := (blk_cell BK312.out 6).trans rfl
              have hcz33_7 : wc.cell? ⟨gb312, 7, none⟩ = some (.slice A0_7 l0_7.length c0_7) := (blk_cell BK312.out 7).trans rfl
              have hfz33_0 := blk_frozen BK312.out 0
              have hfz33_1 := blk_frozen BK312.out 1
              have hfz33_2 := blk_frozen BK312.out 2
              have hfz33_3 := blk_frozen BK312.out 3
              have hfz33_4 := blk_frozen BK312.out 4
              have hfz33_5 := blk_frozen BK312.out 5
              have hfz33_6 := blk_frozen BK312.out 6
              have hfz33_7 := blk_frozen BK312.out 7
              go_wp2
              go_ret
              exact ⟨by first | rfl | (simp [errW_none, errW_some] <;> rfl) | (simp [*, errW_none, errW_some] <;> rfl), by repeat (first | (with_reducible first | exact HB.out | apply below_alloc | apply pw_below_drewN | apply below_drew1 | refine below_set ?_ GE312.out) | exact HB.out)⟩
          · rw [if_neg c25] at H
            have c25b0 : (a0_0 == 2) = false := beq_eq_false_iff_ne.mpr c25
            have c25b1 : (a0_0 != 2) = true := bne_iff_ne.mpr c25
            by_cases c34 : a0_0 = 3
            · rw [if_pos c34] at H
              have c34b0 : (a0_0 == 3) = true := beq_iff_eq.mpr c34
              have c34b1 : (a0_0 != 3) = false := bne_eq_false_iff_eq.mpr c34
              clear c34
              replace H := Option.bind_eq_some_iff.mp H
              obtain ⟨t318, A350, H⟩ := H
              replace H : (if t318 = true then ((msg_within.f a0_4 a0_3).bind fun t319 => (if t319 = true then (some (a0_6 == 0)) else (some false))) else (some false)) = some r := H
              have A35 := Aside0.mk A350
              clear A350
              by_cases c36 : t318 = true
              · subst c36
                have H1 : ((msg_within.f a0_4 a0_3).bind fun t319 => (if t319 = true then (some (a0_6 == 0)) else (some false))) = some r := by rw [if_pos rfl] at H; exact H
                clear H
                have H := H1
                clear H1
                replace H := Option.bind_eq_some_iff.mp H
                obtain ⟨t319, A370, H⟩ := H
                replace H : (if t319 = true then (some (a0_6 == 0)) else (some false)) = some r := H
                have A37 := Aside0.mk A370
                clear A370
                by_cases c38 : t319 = true
                · subst c38
                  have H1 : (some (a0_6 == 0)) = some r := by rw [if_pos rfl] at H; exact H
                  clear H
                  have H := H1
                  clear H1
                  obtain rfl := Option.some.inj H
                  have hcz39_0 : wc.cell? ⟨gb312, 0, none⟩ = some (.int .i64 a0_0) := (blk_cell BK312.out 0).trans rfl
                  have hcz39_1 : wc.cell? ⟨gb312, 1, none⟩ = some (.int .i64 a0_1) := (blk_cell BK312.out 1).trans rfl
                  have hcz39_2 : wc.cell? ⟨gb312, 2, none⟩ = some (.int .i64 a0_2) := (blk_cell BK312.out 2).trans rfl
                  have hcz39_3 : wc.cell? ⟨gb312, 3, none⟩ = some (.int .i64 a0_3) := (blk_cell BK312.out 3).trans rfl
                  have hcz39_4 : wc.cell? ⟨gb312, 4, none⟩ = some (.int .i64 a0_4) := (blk_cell BK312.out 4).trans rfl
                  have hcz39_5 : wc.cell? ⟨gb312, 5, none⟩ = some (.int .i64 a0_5) := (blk_cell BK312.out 5).trans rfl
                  have hcz39_6 : wc.cell? ⟨gb312, 6, none⟩ = some (.int .i64 a0_6) := (blk_cell BK312.out 6).trans rfl
                  have hcz39_7 : wc.cell? ⟨gb312, 7, none⟩ = some (.slice A0_7 l0_7.length c0_7) := (blk_cell BK312.out 7).trans rfl
                  have hfz39_0 := blk_frozen BK312.out 0
                  have hfz39_1 := blk_frozen BK312.out 1
                  have hfz39_2 := blk_frozen BK312.out 2
                  have hfz39_3 := blk_frozen BK312.out 3
                  have hfz39_4 := blk_frozen BK312.out 4
                  have hfz39_5 := blk_frozen BK312.out 5
                  have hfz39_6 := blk_frozen BK312.out 6
                  have hfz39_7 := blk_frozen BK312.out 7
                  go_wp2_with (first | ((with_reducible refine gate_callee (f := 69) rfl ?_); refine goesL_ (some 65) rfl rfl Try.func69 (by kernel_rfl) rfl #[.slice A0_7 l0_7.length c0_7, .int .i64 a0_5] rfl (by (try simp only [List.map_toArray, List.map_cons, List.map_nil]); first | done | rfl | (simp only [List.length_drop, List.length_take]; rfl)) ?_; (with_reducible refine (msg_logged.calls _ _ l0_7 a0_5 true _ ?side1 ?side2 A35.out).mono ?_); (case side1 => repeat (first | exact (Kd.C_below HR0_7.out HB.out) | (with_reducible refine Kd.C_alloc ?_ _) | (with_reducible refine Kd.C_drewN ?_ _) | (with_reducible refine Kd.C_drew ?_))); (case side2 => exact HC0_7.out); rintro e w40 ⟨rfl, hb⟩; refine ⟨_, rfl, ?_⟩; have n0_ := Aside0.mk (blk_below (g := gb312) (o := .cells #[.int .i64 a0_0, .int .i64 a0_1, .int .i64 a0_2, .int .i64 a0_3, .int .i64 a0_4, .int .i64 a0_5, .int .i64 a0_6, .slice A0_7 l0_7.length c0_7] 29 (0, 0)) (by (with_reducible repeat (first | refine blk_drewN ?_ _ | refine blk_drew ?_ | refine blk_alloc ?_ _)); exact BK312.out) hb); have n1_ := Aside0.mk (below_step (by repeat (first | (with_reducible first | exact HB.out | apply below_alloc | apply pw_below_drewN | apply below_drew1 | refine below_set ?_ GE312.out) | exact HB.out)) hb); clear BK312; clear HB; have BK312 := n0_; have HB := n1_; clear n0_ n1_; (try clear hb); (try clear hb2); (try clear hk); (try clear hi); have hcz41_0 : w40.cell? ⟨gb312, 0, none⟩ = some (.int .i64 a0_0) := (blk_cell BK312.out 0).trans rfl; have hcz41_1 : w40.cell? ⟨gb312, 1, none⟩ = some (.int .i64 a0_1) := (blk_cell BK312.out 1).trans rfl; have hcz41_2 : w40.cell? ⟨gb312, 2, none⟩ = some (.int .i64 a0_2) := (blk_cell BK312.out 2).trans rfl; have hcz41_3 : w40.cell? ⟨gb312, 3, none⟩ = some (.int .i64 a0_3) := (blk_cell BK312.out 3).trans rfl; have hcz41_4 : w40.cell? ⟨gb312, 4, none⟩ = some (.int .i64 a0_4) := (blk_cell BK312.out 4).trans rfl; have hcz41_5 : w40.cell? ⟨gb312, 5, none⟩ = some (.int .i64 a0_5) := (blk_cell BK312.out 5).trans rfl; have hcz41_6 : w40.cell? ⟨gb312, 6, none⟩ = some (.int .i64 a0_6) := (blk_cell BK312.out 6).trans rfl; have hcz41_7 : w40.cell? ⟨gb312, 7, none⟩ = some (.slice A0_7 l0_7.length c0_7) := (blk_cell BK312.out 7).trans rfl; have hfz41_0 := blk_frozen BK312.out 0; have hfz41_1 := blk_frozen BK312.out 1; have hfz41_2 := blk_frozen BK312.out 2; have hfz41_3 := blk_frozen BK312.out 3; have hfz41_4 := blk_frozen BK312.out 4; have hfz41_5 := blk_frozen BK312.out 5; have hfz41_6 := blk_frozen BK312.out 6; have hfz41_7 := blk_frozen BK312.out 7) | (go_at_call 68; (with_reducible refine (msg_within.calls a0_4 a0_3 true _ A37.out).mono ?_); rintro e w' ⟨rfl, ⟨nd, rfl⟩⟩))
                  go_ret
                  exact ⟨by first | rfl | (simp [errW_none, errW_some] <;> rfl) | (simp [*, errW_none, errW_some] <;> rfl), by repeat (first | (with_reducible first | exact HB.out | apply below_alloc | apply pw_below_drewN | apply below_drew1 | refine below_set ?_ GE312.out) | exact HB.out)⟩
                · replace c38 := Bool.eq_false_iff.mpr c38
                  subst c38
                  have H1 : (some false) = some r := by rw [if_neg (show ¬ (false = true) by decide)] at H; exact H
                  clear H
                  have H := H1
                  clear H1
                  obtain rfl := Option.some.inj H
                  have hcz42_0 : wc.cell? ⟨gb312, 0, none⟩ = some (.int .i64 a0_0) := (blk_cell BK312.out 0).trans rfl
                  have hcz42_1 : wc.cell? ⟨gb312, 1, none⟩ = some (.int .i64 a0_1) := (blk_cell BK312.out 1).trans rfl
                  have hcz42_2 : wc.cell? ⟨gb312, 2, none⟩ = some (.int .i64 a0_2) := (blk_cell BK312.out 2).trans rfl
                  have hcz42_3 : wc.cell? ⟨gb312, 3, none⟩ = some (.int .i64 a0_3) := (blk_cell BK312.out 3).trans rfl
                  have hcz42_4 : wc.cell? ⟨gb312, 4, none⟩ = some (.int .i64 a0_4) := (blk_cell BK312.out 4).trans rfl
                  have hcz42_5 : wc.cell? ⟨gb312, 5, none⟩ = some (.int .i64 a0_5) := (blk_cell BK312.out 5).trans rfl
                  have hcz42_6 : wc.cell? ⟨gb312, 6, none⟩ = some (.int .i64 a0_6) := (blk_cell BK312.out 6).trans rfl
                  have hcz42_7 : wc.cell? ⟨gb312, 7, none⟩ = some (.slice A0_7 l0_7.length c0_7) := (blk_cell BK312.out 7).trans rfl
                  have hfz42_0 := blk_frozen BK312.out 0
                  have hfz42_1 := blk_frozen BK312.out 1
                  have hfz42_2 := blk_frozen BK312.out 2
                  have hfz42_3 := blk_frozen BK312.out 3
                  have hfz42_4 := blk_frozen BK312.out 4
                  have hfz42_5 := blk_frozen BK312.out 5
                  have hfz42_6 := blk_frozen BK312.out 6
                  have hfz42_7 := blk_frozen BK312.out 7
                  go_wp2_with (first | ((with_reducible refine gate_callee (f := 69) rfl ?_); refine goesL_ (some 65) rfl rfl Try.func69 (by kernel_rfl) rfl #[.slice A0_7 l0_7.length c0_7, .int .i64 a0_5] rfl (by (try simp only [List.map_toArray, List.map_cons, List.map_nil]); first | done | rfl | (simp only [List.length_drop, List.length_take]; rfl)) ?_; (with_reducible refine (msg_logged.calls _ _ l0_7 a0_5 true _ ?side1 ?side2 A35.out).mono ?_); (case side1 => repeat (first | exact (Kd.C_below HR0_7.out HB.out) | (with_reducible refine Kd.C_alloc ?_ _) | (with_reducible refine Kd.C_drewN ?_ _) | (with_reducible refine Kd.C_drew ?_))); (case side2 => exact HC0_7.out); rintro e w43 ⟨rfl, hb⟩; refine ⟨_, rfl, ?_⟩; have n0_ := Aside0.mk (blk_below (g := gb312) (o := .cells #[.int .i64 a0_0, .int .i64 a0_1, .int .i64 a0_2, .int .i64 a0_3, .int .i64 a0_4, .int .i64 a0_5, .int .i64 a0_6, .slice A0_7 l0_7.length c0_7] 29 (0, 0)) (by (with_reducible repeat (first | refine blk_drewN ?_ _ | refine blk_drew ?_ | refine blk_alloc ?_ _)); exact BK312.out) hb); have n1_ := Aside0.mk (below_step (by repeat (first | (with_reducible first | exact HB.out | apply below_alloc | apply pw_below_drewN | apply below_drew1 | refine below_set ?_ GE312.out) | exact HB.out)) hb); clear BK312; clear HB; have BK312 := n0_; have HB := n1_; clear n0_ n1_; (try clear hb); (try clear hb2); (try clear hk); (try clear hi); have hcz44_0 : w43.cell? ⟨gb312, 0, none⟩ = some (.int .i64 a0_0) := (blk_cell BK312.out 0).trans rfl; have hcz44_1 : w43.cell? ⟨gb312, 1, none⟩ = some (.int .i64 a0_1) := (blk_cell BK312.out 1).trans rfl; have hcz44_2 : w43.cell? ⟨gb312, 2, none⟩ = some (.int .i64 a0_2) := (blk_cell BK312.out 2).trans rfl; have hcz44_3 : w43.cell? ⟨gb312, 3, none⟩ = some (.int .i64 a0_3) := (blk_cell BK312.out 3).trans rfl; have hcz44_4 : w43.cell? ⟨gb312, 4, none⟩ = some (.int .i64 a0_4) := (blk_cell BK312.out 4).trans rfl; have hcz44_5 : w43.cell? ⟨gb312, 5, none⟩ = some (.int .i64 a0_5) := (blk_cell BK312.out 5).trans rfl; have hcz44_6 : w43.cell? ⟨gb312, 6, none⟩ = some (.int .i64 a0_6) := (blk_cell BK312.out 6).trans rfl; have hcz44_7 : w43.cell? ⟨gb312, 7, none⟩ = some (.slice A0_7 l0_7.length c0_7) := (blk_cell BK312.out 7).trans rfl; have hfz44_0 := blk_frozen BK312.out 0; have hfz44_1 := blk_frozen BK312.out 1; have hfz44_2 := blk_frozen BK312.out 2; have hfz44_3 := blk_frozen BK312.out 3; have hfz44_4 := blk_frozen BK312.out 4; have hfz44_5 := blk_frozen BK312.out 5; have hfz44_6 := blk_frozen BK312.out 6; have hfz44_7 := blk_frozen BK312.out 7) | (go_at_call 68; (with_reducible refine (msg_within.calls a0_4 a0_3 false _ A37.out).mono ?_); rintro e w' ⟨rfl, ⟨nd, rfl⟩⟩))
                  go_ret
                  exact ⟨by first | rfl | (simp [errW_none, errW_some] <;> rfl) | (simp [*, errW_none, errW_some] <;> rfl), by repeat (first | (with_reducible first | exact HB.out | apply below_alloc | apply pw_below_drewN | apply below_drew1 | refine below_set ?_ GE312.out) | exact HB.out)⟩
              · replace c36 := Bool.eq_false_iff.mpr c36
                subst c36
                have H1 : (some false) = some r := by rw [if_neg (show ¬ (false = true) by decide)] at H; exact H
                clear H
                have H := H1
                clear H1
                obtain rfl := Option.some.inj H
                have hcz45_0 : wc.cell? ⟨gb312, 0, none⟩ = some (.int .i64 a0_0) := (blk_cell BK312.out 0).trans rfl
                have hcz45_1 : wc.cell? ⟨gb312, 1, none⟩ = some (.int .i64 a0_1) := (blk_cell BK312.out 1).trans rfl
                have hcz45_2 : wc.cell? ⟨gb312, 2, none⟩ = some (.int .i64 a0_2) := (blk_cell BK312.out 2).trans rfl
                have hcz45_3 : wc.cell? ⟨gb312, 3, none⟩ = some (.int .i64 a0_3) := (blk_cell BK312.out 3).trans rfl
                have hcz45_4 : wc.cell? ⟨gb312, 4, none⟩ = some (.int .i64 a0_4) := (blk_cell BK312.out 4).trans rfl
                have hcz45_5 : wc.cell? ⟨gb312, 5, none⟩ = some (.int .i64 a0_5) := (blk_cell BK312.out 5).trans rfl
                have hcz45_6 : wc.cell? ⟨gb312, 6, none⟩ = some (.int .i64 a0_6) := (blk_cell BK312.out 6).trans rfl
                have hcz45_7 : wc.cell? ⟨gb312, 7, none⟩ = some (.slice A0_7 l0_7.length c0_7) := (blk_cell BK312.out 7).trans rfl
                have hfz45_0 := blk_frozen BK312.out 0
                have hfz45_1 := blk_frozen BK312.out 1
                have hfz45_2 := blk_frozen BK312.out 2
                have hfz45_3 := blk_frozen BK312.out 3
                have hfz45_4 := blk_frozen BK312.out 4
                have hfz45_5 := blk_frozen BK312.out 5
                have hfz45_6 := blk_frozen BK312.out 6
                have hfz45_7 := blk_frozen BK312.out 7
                go_wp2_with (first | ((with_reducible refine gate_callee (f := 69) rfl ?_); refine goesL_ (some 65) rfl rfl Try.func69 (by kernel_rfl) rfl #[.slice A0_7 l0_7.length c0_7, .int .i64 a0_5] rfl (by (try simp only [List.map_toArray, List.map_cons, List.map_nil]); first | done | rfl | (simp only [List.length_drop, List.length_take]; rfl)) ?_; (with_reducible refine (msg_logged.calls _ _ l0_7 a0_5 false _ ?side1 ?side2 A35.out).mono ?_); (case side1 => repeat (first | exact (Kd.C_below HR0_7.out HB.out) | (with_reducible refine Kd.C_alloc ?_ _) | (with_reducible refine Kd.C_drewN ?_ _) | (with_reducible refine Kd.C_drew ?_))); (case side2 => exact HC0_7.out); rintro e w46 ⟨rfl, hb⟩; refine ⟨_, rfl, ?_⟩; have n0_ := Aside0.mk (blk_below (g := gb312) (o := .cells #[.int .i64 a0_0, .int .i64 a0_1, .int .i64 a0_2, .int .i64 a0_3, .int .i64 a0_4, .int .i64 a0_5, .int .i64 a0_6, .slice A0_7 l0_7.length c0_7] 29 (0, 0)) (by (with_reducible repeat (first | refine blk_drewN ?_ _ | refine blk_drew ?_ | refine blk_alloc ?_ _)); exact BK312.out) hb); have n1_ := Aside0.mk (below_step (by repeat (first | (with_reducible first | exact HB.out | apply below_alloc | apply pw_below_drewN | apply below_drew1 | refine below_set ?_ GE312.out) | exact HB.out)) hb); clear BK312; clear HB; have BK312 := n0_; have HB := n1_; clear n0_ n1_; (try clear hb); (try clear hb2); (try clear hk); (try clear hi)))
                go_ret
                exact ⟨by first | rfl | (simp [errW_none, errW_some] <;> rfl) | (simp [*, errW_none, errW_some] <;> rfl), by repeat (first | (with_reducible first | exact HB.out | apply below_alloc | apply pw_below_drewN | apply below_drew1 | refine below_set ?_ GE312.out) | exact HB.out)⟩
            · rw [if_neg c34] at H
              have c34b0 : (a0_0 == 3) = false := beq_eq_false_iff_ne.mpr c34
              have c34b1 : (a0_0 != 3) = true := bne_iff_ne.mpr c34
              obtain rfl := Option.some.inj H
              have hcz47_0 : wc.cell? ⟨gb312, 0, none⟩ = some (.int .i64 a0_0) := (blk_cell BK312.out 0).trans rfl
              have hcz47_1 : wc.cell? ⟨gb312, 1, none⟩ = some (.int .i64 a0_1) := (blk_cell BK312.out 1).trans rfl
              have hcz47_2 : wc.cell? ⟨gb312, 2, none⟩ = some (.int .i64 a0_2) := (blk_cell BK312.out 2).trans rfl
              have hcz47_3 : wc.cell? ⟨gb312, 3, none⟩ = some (.int .i64 a0_3) := (blk_cell BK312.out 3).trans rfl
              have hcz47_4 : wc.cell? ⟨gb312, 4, none⟩ = some (.int .i64 a0_4) := (blk_cell BK312.out 4).trans rfl
              have hcz47_5 : wc.cell? ⟨gb312, 5, none⟩ = some (.int .i64 a0_5) := (blk_cell BK312.out 5).trans rfl
              have hcz47_6 : wc.cell? ⟨gb312, 6, none⟩ = some (.int .i64 a0_6) := (blk_cell BK312.out 6).trans rfl
              have hcz47_7 : wc.cell? ⟨gb312, 7, none⟩ = some (.slice A0_7 l0_7.length c0_7) := (blk_cell BK312.out 7).trans rfl
              have hfz47_0 := blk_frozen BK312.out 0
              have hfz47_1 := blk_frozen BK312.out 1
              have hfz47_2 := blk_frozen BK312.out 2
              have hfz47_3 := blk_frozen BK312.out 3
              have hfz47_4 := blk_frozen BK312.out 4
              have hfz47_5 := blk_frozen BK312.out 5
              have hfz47_6 := blk_frozen BK312.out 6
              have hfz47_7 := blk_frozen BK312.out 7
              go_wp2
              go_ret
              exact ⟨by first | rfl | (simp [errW_none, errW_some] <;> rfl) | (simp [*, errW_none, errW_some] <;> rfl), by repeat (first | (with_reducible first | exact HB.out | apply below_alloc | apply pw_below_drewN | apply below_drew1 | refine below_set ?_ GE312.out) | exact HB.out)⟩

end Go.Proofs.Ytfejidinfcmfjaa.P
/-
  msg.Put, by hand.
-/
namespace Go.Proofs.Ytfejidinfcmfjaa.P
open Go.RowKit Go.Shelf Go.Proofs Go.Proofs.CodecPlain Go.Proofs.YtfejidinfcmfjaaW.PrintWords Go.Proofs.YtfejidinfcmfjaaW.PrintLast

def inB (n most : Int) : Bool := decide (0 ≤ n) && decide (n ≤ most)
/-- Whether a message may be. -/
def isB (n0 n1 n2 n3 n4 n5 n6 : Int) (l : List ByteArray) : Bool :=
  inB n1 6 && inB n2 6 && inB n3 1000000 &&
    (if n0 = 1 then loggedB l n5 && (n4 == 0) && (n6 == 0) else if n0 = 2 then (l.length == 0) && (n5 == 0) && (n4 == 0) && inB n6 60 else if n0 = 3 then loggedB l n5 && inB n4 n3 && (n6 == 0) else false)
theorem msg_is_f (k : Nat) (n0 n1 n2 n3 n4 n5 n6 : Int) (l : List ByteArray) : msg_Is.f (k + 1) n0 n1 n2 n3 n4 n5 n6 l = some (isB n0 n1 n2 n3 n4 n5 n6 l) := by
  have hj : ∀ b, msg_Is.j0 (k + 1) (!b) n0 n1 n2 n3 n4 n5 n6 l = some (b && (if n0 = 1 then loggedB l n5 && (n4 == 0) && (n6 == 0) else if n0 = 2 then (l.length == 0) && (n5 == 0) && (n4 == 0) && inB n6 60 else if n0 = 3 then loggedB l n5 && inB n4 n3 && (n6 == 0) else false)) := by
    intro b
    simp only [msg_Is.j0, within_f, msg_logged.f]
    cases b
    · simp
    · simp only [inB]
      have hw : ∀ (c : Prop) [Decidable c] (x : Bool), (if c then some x else some false) = some (decide c && x) := by
        intro c _ x
        by_cases h : c <;> simp [h]
      have hb : ∀ (a x : Bool), (if a = true then some x else some false) = some (a && x) := by
        intro a x
        cases a <;> simp
      simp only [Option.bind_some, hb, hw, Bool.true_and, Bool.not_true, if_neg (show ¬ (false = true) by decide)]
      by_cases h1 : n0 = 1
      · rw [if_pos h1, if_pos h1]
        cases loggedB l n5 <;> by_cases h4 : n4 = 0 <;> simp [h4]
      · rw [if_neg h1, if_neg h1]
        by_cases h2 : n0 = 2
        · rw [if_pos h2, if_pos h2]
          by_cases h5 : (l.length : Int) = 0 <;> by_cases h6 : n5 = 0 <;> by_cases h7 : n4 = 0 <;> simp [h6, h7] <;> simp_all <;> omega
        · rw [if_neg h2, if_neg h2]
          by_cases h3 : n0 = 3
          · simp [h3, Bool.and_assoc]
          · simp [h3]
  unfold msg_Is.f isB
  rw [within_f, within_f, within_f]
  unfold inB
  simp only [Option.bind_some]
  cases h1 : (decide (0 ≤ n1) && decide (n1 ≤ 6))
  · rw [if_neg (by decide)]; exact (hj false).trans (by simp)
  · rw [if_pos rfl]
    cases h2 : (decide (0 ≤ n2) && decide (n2 ≤ 6))
    · rw [if_neg (by decide)]; exact (hj false).trans (by simp)
    · rw [if_pos rfl, hj]
      unfold inB
      simp


/-- A message's bytes. -/
def msgStr (n0 n1 n2 n3 n4 n5 n6 : Int) (l : List ByteArray) : ByteArray := catStr ([n0, n1, n2, n3, n4, n5, n6].map numStr) ++ rowStr l
theorem isB_bd {n0 n1 n2 n3 n4 n5 n6 : Int} {l : List ByteArray} (h : isB n0 n1 n2 n3 n4 n5 n6 l = true) :
    (0 ≤ n0 ∧ n0 ≤ 4294967295) ∧ (0 ≤ n1 ∧ n1 ≤ 4294967295) ∧ (0 ≤ n2 ∧ n2 ≤ 4294967295) ∧ (0 ≤ n3 ∧ n3 ≤ 4294967295) ∧ (0 ≤ n4 ∧ n4 ≤ 4294967295) ∧ (0 ≤ n5 ∧ n5 ≤ 4294967295) ∧ (0 ≤ n6 ∧ n6 ≤ 4294967295) ∧ l.length ≤ 60 ∧ ∀ s ∈ l, s.size ≤ 300 := by
  unfold isB inB at h
  simp only [Bool.and_eq_true, decide_eq_true_eq] at h
  obtain ⟨⟨⟨h1, h2⟩, h3⟩, h4⟩ := h
  have hlog : loggedB l n5 = true → (0 ≤ n5 ∧ n5 ≤ 4294967295) ∧ l.length ≤ 60 ∧ ∀ s ∈ l, s.size ≤ 300 := by
    intro hl
    unfold loggedB at hl
    simp only [Bool.and_eq_true, decide_eq_true_eq, Bool.not_eq_true'] at hl
    obtain ⟨⟨a, b, c⟩, d⟩ := hl
    refine ⟨⟨b, by omega⟩, a, fun s hs => ?_⟩
    have := List.any_eq_false.1 d s hs
    unfold long300 at this
    simpa using this
  by_cases e1 : n0 = 1
  · rw [if_pos e1] at h4
    simp only [Bool.and_eq_true, beq_iff_eq] at h4
    obtain ⟨⟨a, b⟩, c⟩ := h4
    obtain ⟨x, y, z⟩ := hlog a
    exact ⟨by omega, by omega, by omega, by omega, by omega, x, by omega, y, z⟩
  · rw [if_neg e1] at h4
    by_cases e2 : n0 = 2
    · rw [if_pos e2] at h4
      simp only [Bool.and_eq_true, beq_iff_eq, decide_eq_true_eq] at h4
      obtain ⟨⟨⟨a, b⟩, c⟩, d⟩ := h4
      have := List.eq_nil_of_length_eq_zero a
      subst this
      exact ⟨by omega, by omega, by omega, by omega, by omega, by omega, by omega, by simp, by simp⟩
    · rw [if_neg e2] at h4
      by_cases e3 : n0 = 3
      · rw [if_pos e3] at h4
        simp only [Bool.and_eq_true, beq_iff_eq, decide_eq_true_eq] at h4
        obtain ⟨⟨a, b⟩, c⟩ := h4
        obtain ⟨x, y, z⟩ := hlog a
        exact ⟨by omega, by omega, by omega, by omega, by omega, x, by omega, y, z⟩
      · rw [if_neg e3] at h4; cases h4
/-- What msg.Put answers. -/
def msg_Put.f (n0 n1 n2 n3 n4 n5 n6 : Int) (l : List ByteArray) : Option (ByteArray × Int) := if isB n0 n1 n2 n3 n4 n5 n6 l = true then some (msgStr n0 n1 n2 n3 n4 n5 n6 l, 0) else some (⟨#[]⟩, 1)
theorem cat_snoc (ns : List Int) (n : Int) : catStr ((ns ++ [n]).map numStr) = catStr (ns.map numStr) ++ numStr n := by
  rw [List.map_append, catStr_append]
  rw [show catStr ([n].map numStr) = numStr n ++ ByteArray.empty from rfl, ByteArray.append_empty]
theorem cat_size : ∀ ns : List Int, (catStr (ns.map numStr)).size ≤ ns.length * 5
  | [] => by show (ByteArray.empty).size ≤ _; simp
  | n :: ns => by
    have := cat_size ns
    have h2 := numStr_size n
    show (numStr n ++ catStr (ns.map numStr)).size ≤ _
    rw [CodecPlain.size_append]; simp only [List.length_cons]; omega
theorem row_size (l : List ByteArray) (hl : l.length ≤ 60) (h : ∀ s ∈ l, s.size ≤ 300) : (rowStr l).size ≤ 300000 := by
  have h1 := numStr_size (l.length : Int)
  have h2 := catStr_size l (fun s hs => by have := h s hs; omega)
  unfold rowStr
  rw [CodecPlain.size_append]
  omega
theorem codec_row_ok (l : List ByteArray) (hl : l.length ≤ 60) (h : ∀ s ∈ l, s.size ≤ 300) : codec_Row.f l = some (rowStr l, 0) := by
  unfold codec_Row.f
  rw [if_neg (by omega), if_pos]
  rw [List.all_eq_true]
  exact fun s hs => decide_eq_true (by have := h s hs; omega)


set_option maxHeartbeats 4000000 in
theorem msg_Put_no (A : Option Addr) (c : Nat) (n0 n1 n2 n3 n4 n5 n6 : Int) (l : List ByteArray) (w : World) (hr : Kd.C Kd.string w A l.length l) (hc : l.length ≤ c) (h : isB n0 n1 n2 n3 n4 n5 n6 l = false) :
    Calls Try.prog 31 #[.agg #[.int .i64 n0, .int .i64 n1, .int .i64 n2, .int .i64 n3, .int .i64 n4, .int .i64 n5, .int .i64 n6, .slice A l.length c]] w fun e w' => e = .returned (.tuple #[.string ⟨#[]⟩, .int .i64 1]) ∧ Below w.heap.size w w' := by
  have HB0 := Aside0.mk ((Below.refl w.heap.size w).alloc (Nat.le_refl _) (.cells #[.int .i64 n0, .int .i64 n1, .int .i64 n2, .int .i64 n3, .int .i64 n4, .int .i64 n5, .int .i64 n6, .slice A l.length c] 29))
  have HI := Aside0.mk (msg_Is.calls 1 n0 n1 n2 n3 n4 n5 n6 A c l false _ (Kd.C_below hr HB0.out) hc (by rw [msg_is_f 0, h]))
  clear hr h
  go_enter Try.func31, Try.ntmps31
  go_wp2_with (first | (go_at_call 36; (with_reducible refine HI.out.mono ?_); rintro e w1 ⟨rfl, hb1⟩; have HB1 := Aside0.mk (HB0.out.trans (hb1.mono HB0.out.size)); clear hb1))
  go_ret2
  exact ⟨rfl, HB1.out⟩
set_option maxHeartbeats 16000000 in
set_option maxRecDepth 100000 in
theorem msg_Put_yes (A : Option Addr) (c : Nat) (n0 n1 n2 n3 n4 n5 n6 : Int) (l : List ByteArray) (w : World) (hr : Kd.C Kd.string w A l.length l) (hc : l.length ≤ c) (h : isB n0 n1 n2 n3 n4 n5 n6 l = true) :
    Calls Try.prog 31 #[.agg #[.int .i64 n0, .int .i64 n1, .int .i64 n2, .int .i64 n3, .int .i64 n4, .int .i64 n5, .int .i64 n6, .slice A l.length c]] w fun e w' => e = .returned (.tuple #[.string (msgStr n0 n1 n2 n3 n4 n5 n6 l), .int .i64 0]) ∧ Below w.heap.size w w' := by
  obtain ⟨b0, b1, b2, b3, b4, b5, b6, hl, hsz⟩ := isB_bd h
  have HB0 := Aside0.mk ((Below.refl w.heap.size w).alloc (Nat.le_refl _) (.cells #[.int .i64 n0, .int .i64 n1, .int .i64 n2, .int .i64 n3, .int .i64 n4, .int .i64 n5, .int .i64 n6, .slice A l.length c] 29))
  have HE0 := Aside0.mk (blk_new w (.cells #[.int .i64 n0, .int .i64 n1, .int .i64 n2, .int .i64 n3, .int .i64 n4, .int .i64 n5, .int .i64 n6, .slice A l.length c] 29))
  have HI := Aside0.mk (msg_Is.calls 1 n0 n1 n2 n3 n4 n5 n6 A c l true _ (Kd.C_below hr HB0.out) hc (by rw [msg_is_f 0, h]))
  have HR := Aside0.mk hr
  have HRow := Aside0.mk (codec_row_ok l hl hsz)
  have HRS := Aside0.mk (row_size l hl hsz)
  have HN0 := Aside0.mk (fun W => codec_Number.calls n0 (numStr n0) 0 W (by unfold codec_Number.f; rw [if_pos b0]))
  have HN1 := Aside0.mk (fun W => codec_Number.calls n1 (numStr n1) 0 W (by unfold codec_Number.f; rw [if_pos b1]))
  have HN2 := Aside0.mk (fun W => codec_Number.calls n2 (numStr n2) 0 W (by unfold codec_Number.f; rw [if_pos b2]))
  have HN3 := Aside0.mk (fun W => codec_Number.calls n3 (numStr n3) 0 W (by unfold codec_Number.f; rw [if_pos b3]))
  have HN4 := Aside0.mk (fun W => codec_Number.calls n4 (numStr n4) 0 W (by unfold codec_Number.f; rw [if_pos b4]))
  have HN5 := Aside0.mk (fun W => codec_Number.calls n5 (numStr n5) 0 W (by unfold codec_Number.f; rw [if_pos b5]))
  have HN6 := Aside0.mk (fun W => codec_Number.calls n6 (numStr n6) 0 W (by unfold codec_Number.f; rw [if_pos b6]))
  clear hr h hsz b0 b1 b2 b3 b4 b5 b6
  go_enter Try.func31, Try.ntmps31
  go_wp2_with (first | (go_at_call 36; (with_reducible refine HI.out.mono ?_); rintro e w1 ⟨rfl, hb1⟩; have HB1 := Aside0.mk (HB0.out.trans (hb1.mono HB0.out.size)); have HE1 := Aside0.mk (blk_below HE0.out hb1); clear hb1))
  have hbld := Aside0.mk (Lib.fresh_isBuilder 76 5 w1)
  have HBb := Aside0.mk ((Below.refl w1.heap.size w1).alloc (Nat.le_refl _) (.cells #[.pointer none, .slice none 0 0] 76))
  have hlt1 := blk_lt HE1.out
  have HLT := Aside0.mk hlt1
  clear HB0 HE0 HI hlt1
  go_wp2_with (first | (go_at_call 57; (with_reducible refine (msg_fields_calls w.heap.size _).mono ?_); rintro e w2 ⟨rfl, hb2⟩; have hbl2 := Aside0.mk (isBld_below hbld.out hb2); have HB2 := Aside0.mk (HBb.out.trans (hb2.mono HBb.out.size)); clear hb2 hbld HBb))
  simp only [ptrs]
  go_loopw [6, 7, 8, 15] (fun _ _ _ i wr => ∃ k : Nat, k ≤ 7 ∧ i = .int .i64 k ∧ Aside0 (Lib.IsBuilder 76 5 w1.heap.size w1.heap.size (Lib.byteCells (catStr (([n0, n1, n2, n3, n4, n5, n6].take k).map numStr)).data.toList) wr) ∧ Aside0 (Below w1.heap.size w1 wr))
    (fun _ _ _ i _ => 7 - (intOf i).toNat)
  case atStart => exact ⟨0, Nat.zero_le _, rfl, ⟨hbl2.out⟩, HB2⟩
  case round =>
    clear hbl2 HB2
    obtain ⟨k, hk, rfl, hbl, HB⟩ := hrel
    have HEr := Aside0.mk ((HB.out.block w.heap.size HLT.out).trans HE1.out)
    have hks : k = 0 ∨ k = 1 ∨ k = 2 ∨ k = 3 ∨ k = 4 ∨ k = 5 ∨ k = 6 ∨ k = 7 := by omega
    rcases hks with rfl | rfl | rfl | rfl | rfl | rfl | rfl | rfl
    · have ck := blk_cell HEr.out 0
      have hnx := Aside0.mk (cat_snoc [] n0)
      have hlen : Aside0 ((catStr (([n0, n1, n2, n3, n4, n5, n6].take 0).map numStr)).data.toList.length + (numStr n0).size ≤ 140737488355328) := ⟨by
        have h1 := cat_size ([n0, n1, n2, n3, n4, n5, n6].take 0)
        have h2 := numStr_size n0
        have h3 : ([n0, n1, n2, n3, n4, n5, n6].take 0).length ≤ 7 := by simp
        rw [Array.length_toList]
        show (catStr (([n0, n1, n2, n3, n4, n5, n6].take 0).map numStr)).size + _ ≤ _
        omega⟩
      simp only [List.getElem?_toArray, List.getElem?_cons_zero, List.getElem?_cons_succ] at ck
      go_wp2_with (first | ((with_reducible refine gate_dst (N := 17) rfl ?_); refine Kd.event_run (v := .pointer (some ⟨w.heap.size, 0, none⟩)) (w1 := wr) rfl ?hx ?_; (case hx => kernel_rfl)) | (go_at_call 58; (with_reducible refine (HN0.out _).mono ?_); rintro e w4 ⟨rfl, hb4⟩; have hbl4 := Aside0.mk (isBld_below hbl.out hb4); have HB4 := Aside0.mk (HB.out.trans (hb4.mono HB.out.size)); clear hb4))
      go_wp2_with (first | (go_at_call 59; (refine (bld_write w1.heap.size w1.heap.size _ (numStr n0) _ hbl4.out hlen.out HB4.out.size).mono ?_); rintro e w5 ⟨rfl, hbw5, hB5⟩))
      go_roundw
      case measure => simp [intOf]
      case rel =>
      refine ⟨1, by omega, by go_num, ⟨?_⟩, ⟨HB4.out.trans hB5.out⟩⟩
      have h5 := hbw5.out
      rw [show (catStr (([n0, n1, n2, n3, n4, n5, n6].take 0).map numStr)).data.toList ++ (numStr n0).data.toList = (catStr (([n0, n1, n2, n3, n4, n5, n6].take 0).map numStr) ++ numStr n0).data.toList from (by rw [ByteArray.toList_data_append])] at h5
      rw [show [n0, n1, n2, n3, n4, n5, n6].take 1 = [] ++ [n0] from rfl, hnx.out]
      exact h5
    · have ck := blk_cell HEr.out 1
      have hnx := Aside0.mk (cat_snoc [n0] n1)
      have hlen : Aside0 ((catStr (([n0, n1, n2, n3, n4, n5, n6].take 1).map numStr)).data.toList.length + (numStr n1).size ≤ 140737488355328) := ⟨by
        have h1 := cat_size ([n0, n1, n2, n3, n4, n5, n6].take 1)
        have h2 := numStr_size n1
        have h3 : ([n0, n1, n2, n3, n4, n5, n6].take 1).length ≤ 7 := by simp
        rw [Array.length_toList]
        show (catStr (([n0, n1, n2, n3, n4, n5, n6].take 1).map numStr)).size + _ ≤ _
        omega⟩
      simp only [List.getElem?_toArray, List.getElem?_cons_zero, List.getElem?_cons_succ] at ck
      go_wp2_with (first | ((with_reducible refine gate_dst (N := 17) rfl ?_); refine Kd.event_run (v := .pointer (some ⟨w.heap.size, 1, none⟩)) (w1 := wr) rfl ?hx ?_; (case hx => kernel_rfl)) | (go_at_call 58; (with_reducible refine (HN1.out _).mono ?_); rintro e w4 ⟨rfl, hb4⟩; have hbl4 := Aside0.mk (isBld_below hbl.out hb4); have HB4 := Aside0.mk (HB.out.trans (hb4.mono HB.out.size)); clear hb4))
      go_wp2_with (first | (go_at_call 59; (refine (bld_write w1.heap.size w1.heap.size _ (numStr n1) _ hbl4.out hlen.out HB4.out.size).mono ?_); rintro e w5 ⟨rfl, hbw5, hB5⟩))
      go_roundw
      case measure => simp [intOf]
      case rel =>
      refine ⟨2, by omega, by go_num, ⟨?_⟩, ⟨HB4.out.trans hB5.out⟩⟩
      have h5 := hbw5.out
      rw [show (catStr (([n0, n1, n2, n3, n4, n5, n6].take 1).map numStr)).data.toList ++ (numStr n1).data.toList = (catStr (([n0, n1, n2, n3, n4, n5, n6].take 1).map numStr) ++ numStr n1).data.toList from (by rw [ByteArray.toList_data_append])] at h5
      rw [show [n0, n1, n2, n3, n4, n5, n6].take 2 = [n0] ++ [n1] from rfl, hnx.out]
      exact h5
    · have ck := blk_cell HEr.out 2
      have hnx := Aside0.mk (cat_snoc [n0, n1] n2)
      have hlen : Aside0 ((catStr (([n0, n1, n2, n3, n4, n5, n6].take 2).map numStr)).data.toList.length + (numStr n2).size ≤ 140737488355328) := ⟨by
        have h1 := cat_size ([n0, n1, n2, n3, n4, n5, n6].take 2)
        have h2 := numStr_size n2
        have h3 : ([n0, n1, n2, n3, n4, n5, n6].take 2).length ≤ 7 := by simp
        rw [Array.length_toList]
        show (catStr (([n0, n1, n2, n3, n4, n5, n6].take 2).map numStr)).size + _ ≤ _
        omega⟩
      simp only [List.getElem?_toArray, List.getElem?_cons_zero, List.getElem?_cons_succ] at ck
      go_wp2_with (first | ((with_reducible refine gate_dst (N := 17) rfl ?_); refine Kd.event_run (v := .pointer (some ⟨w.heap.size, 2, none⟩)) (w1 := wr) rfl ?hx ?_; (case hx => kernel_rfl)) | (go_at_call 58; (with_reducible refine (HN2.out _).mono ?_); rintro e w4 ⟨rfl, hb4⟩; have hbl4 := Aside0.mk (isBld_below hbl.out hb4); have HB4 := Aside0.mk (HB.out.trans (hb4.mono HB.out.size)); clear hb4))
      go_wp2_with (first | (go_at_call 59; (refine (bld_write w1.heap.size w1.heap.size _ (numStr n2) _ hbl4.out hlen.out HB4.out.size).mono ?_); rintro e w5 ⟨rfl, hbw5, hB5⟩))
      go_roundw
      case measure => simp [intOf]
      case rel =>
      refine ⟨3, by omega, by go_num, ⟨?_⟩, ⟨HB4.out.trans hB5.out⟩⟩
      have h5 := hbw5.out
      rw [show (catStr (([n0, n1, n2, n3, n4, n5, n6].take 2).map numStr)).data.toList ++ (numStr n2).data.toList = (catStr (([n0, n1, n2, n3, n4, n5, n6].take 2).map numStr) ++ numStr n2).data.toList from (by rw [ByteArray.toList_data_append])] at h5
      rw [show [n0, n1, n2, n3, n4, n5, n6].take 3 = [n0, n1] ++ [n2] from rfl, hnx.out]
      exact h5
    · have ck := blk_cell HEr.out 3
      have hnx := Aside0.mk (cat_snoc [n0, n1, n2] n3)
      have hlen : Aside0 ((catStr (([n0, n1, n2, n3, n4, n5, n6].take 3).map numStr)).data.toList.length + (numStr n3).size ≤ 140737488355328) := ⟨by
        have h1 := cat_size ([n0, n1, n2, n3, n4, n5, n6].take 3)
        have h2 := numStr_size n3
        have h3 : ([n0, n1, n2, n3, n4, n5, n6].take 3).length ≤ 7 := by simp
        rw [Array.length_toList]
        show (catStr (([n0, n1, n2, n3, n4, n5, n6].take 3).map numStr)).size + _ ≤ _
        omega⟩
      simp only [List.getElem?_toArray, List.getElem?_cons_zero, List.getElem?_cons_succ] at ck
      go_wp2_with (first | ((with_reducible refine gate_dst (N := 17) rfl ?_); refine Kd.event_run (v := .pointer (some ⟨w.heap.size, 3, none⟩)) (w1 := wr) rfl ?hx ?_; (case hx => kernel_rfl)) | (go_at_call 58; (with_reducible refine (HN3.out _).mono ?_); rintro e w4 ⟨rfl, hb4⟩; have hbl4 := Aside0.mk (isBld_below hbl.out hb4); have HB4 := Aside0.mk (HB.out.trans (hb4.mono HB.out.size)); clear hb4))
      go_wp2_with (first | (go_at_call 59; (refine (bld_write w1.heap.size w1.heap.size _ (numStr n3) _ hbl4.out hlen.out HB4.out.size).mono ?_); rintro e w5 ⟨rfl, hbw5, hB5⟩))
      go_roundw
      case measure => simp [intOf]
      case rel =>
      refine ⟨4, by omega, by go_num, ⟨?_⟩, ⟨HB4.out.trans hB5.out⟩⟩
      have h5 := hbw5.out
      rw [show (catStr (([n0, n1, n2, n3, n4, n5, n6].take 3).map numStr)).data.toList ++ (numStr n3).data.toList = (catStr (([n0, n1, n2, n3, n4, n5, n6].take 3).map numStr) ++ numStr n3).data.toList from (by rw [ByteArray.toList_data_append])] at h5
      rw [show [n0, n1, n2, n3, n4, n5, n6].take 4 = [n0, n1, n2] ++ [n3] from rfl, hnx.out]
      exact h5
    · have ck := blk_cell HEr.out 4
      have hnx := Aside0.mk (cat_snoc [n0, n1, n2, n3] n4)
      have hlen : Aside0 ((catStr (([n0, n1, n2, n3, n4, n5, n6].take 4).map numStr)).data.toList.length + (numStr n4).size ≤ 140737488355328) := ⟨by
        have h1 := cat_size ([n0, n1, n2, n3, n4, n5, n6].take 4)
        have h2 := numStr_size n4
        have h3 : ([n0, n1, n2, n3, n4, n5, n6].take 4).length ≤ 7 := by simp
        rw [Array.length_toList]
        show (catStr (([n0, n1, n2, n3, n4, n5, n6].take 4).map numStr)).size + _ ≤ _
        omega⟩
      simp only [List.getElem?_toArray, List.getElem?_cons_zero, List.getElem?_cons_succ] at ck
      go_wp2_with (first | ((with_reducible refine gate_dst (N := 17) rfl ?_); refine Kd.event_run (v := .pointer (some ⟨w.heap.size, 4, none⟩)) (w1 := wr) rfl ?hx ?_; (case hx => kernel_rfl)) | (go_at_call 58; (with_reducible refine (HN4.out _).mono ?_); rintro e w4 ⟨rfl, hb4⟩; have hbl4 := Aside0.mk (isBld_below hbl.out hb4); have HB4 := Aside0.mk (HB.out.trans (hb4.mono HB.out.size)); clear hb4))
      go_wp2_with (first | (go_at_call 59; (refine (bld_write w1.heap.size w1.heap.size _ (numStr n4) _ hbl4.out hlen.out HB4.out.size).mono ?_); rintro e w5 ⟨rfl, hbw5, hB5⟩))
      go_roundw
      case measure => simp [intOf]
      case rel =>
      refine ⟨5, by omega, by go_num, ⟨?_⟩, ⟨HB4.out.trans hB5.out⟩⟩
      have h5 := hbw5.out
      rw [show (catStr (([n0, n1, n2, n3, n4, n5, n6].take 4).map numStr)).data.toList ++ (numStr n4).data.toList = (catStr (([n0, n1, n2, n3, n4, n5, n6].take 4).map numStr) ++ numStr n4).data.toList from (by rw [ByteArray.toList_data_append])] at h5
      rw [show [n0, n1, n2, n3, n4, n5, n6].take 5 = [n0, n1, n2, n3] ++ [n4] from rfl, hnx.out]
      exact h5
    · have ck := blk_cell HEr.out 5
      have hnx := Aside0.mk (cat_snoc [n0, n1, n2, n3, n4] n5)
      have hlen : Aside0 ((catStr (([n0, n1, n2, n3, n4, n5, n6].take 5).map numStr)).data.toList.length + (numStr n5).size ≤ 140737488355328) := ⟨by
        have h1 := cat_size ([n0, n1, n2, n3, n4, n5, n6].take 5)
        have h2 := numStr_size n5
        have h3 : ([n0, n1, n2, n3, n4, n5, n6].take 5).length ≤ 7 := by simp
        rw [Array.length_toList]
        show (catStr (([n0, n1, n2, n3, n4, n5, n6].take 5).map numStr)).size + _ ≤ _
        omega⟩
      simp only [List.getElem?_toArray, List.getElem?_cons_zero, List.getElem?_cons_succ] at ck
      go_wp2_with (first | ((with_reducible refine gate_dst (N := 17) rfl ?_); refine Kd.event_run (v := .pointer (some ⟨w.heap.size, 5, none⟩)) (w1 := wr) rfl ?hx ?_; (case hx => kernel_rfl)) | (go_at_call 58; (with_reducible refine (HN5.out _).mono ?_); rintro e w4 ⟨rfl, hb4⟩; have hbl4 := Aside0.mk (isBld_below hbl.out hb4); have HB4 := Aside0.mk (HB.out.trans (hb4.mono HB.out.size)); clear hb4))
      go_wp2_with (first | (go_at_call 59; (refine (bld_write w1.heap.size w1.heap.size _ (numStr n5) _ hbl4.out hlen.out HB4.out.size).mono ?_); rintro e w5 ⟨rfl, hbw5, hB5⟩))
      go_roundw
      case measure => simp [intOf]
      case rel =>
      refine ⟨6, by omega, by go_num, ⟨?_⟩, ⟨HB4.out.trans hB5.out⟩⟩
      have h5 := hbw5.out
      rw [show (catStr (([n0, n1, n2, n3, n4, n5, n6].take 5).map numStr)).data.toList ++ (numStr n5).data.toList = (catStr (([n0, n1, n2, n3, n4, n5, n6].take 5).map numStr) ++ numStr n5).data.toList from (by rw [ByteArray.toList_data_append])] at h5
      rw [show [n0, n1, n2, n3, n4, n5, n6].take 6 = [n0, n1, n2, n3, n4] ++ [n5] from rfl, hnx.out]
      exact h5
    · have ck := blk_cell HEr.out 6
      have hnx := Aside0.mk (cat_snoc [n0, n1, n2, n3, n4, n5] n6)
      have hlen : Aside0 ((catStr (([n0, n1, n2, n3, n4, n5, n6].take 6).map numStr)).data.toList.length + (numStr n6).size ≤ 140737488355328) := ⟨by
        have h1 := cat_size ([n0, n1, n2, n3, n4, n5, n6].take 6)
        have h2 := numStr_size n6
        have h3 : ([n0, n1, n2, n3, n4, n5, n6].take 6).length ≤ 7 := by simp
        rw [Array.length_toList]
        show (catStr (([n0, n1, n2, n3, n4, n5, n6].take 6).map numStr)).size + _ ≤ _
        omega⟩
      simp only [List.getElem?_toArray, List.getElem?_cons_zero, List.getElem?_cons_succ] at ck
      go_wp2_with (first | ((with_reducible refine gate_dst (N := 17) rfl ?_); refine Kd.event_run (v := .pointer (some ⟨w.heap.size, 6, none⟩)) (w1 := wr) rfl ?hx ?_; (case hx => kernel_rfl)) | (go_at_call 58; (with_reducible refine (HN6.out _).mono ?_); rintro e w4 ⟨rfl, hb4⟩; have hbl4 := Aside0.mk (isBld_below hbl.out hb4); have HB4 := Aside0.mk (HB.out.trans (hb4.mono HB.out.size)); clear hb4))
      go_wp2_with (first | (go_at_call 59; (refine (bld_write w1.heap.size w1.heap.size _ (numStr n6) _ hbl4.out hlen.out HB4.out.size).mono ?_); rintro e w5 ⟨rfl, hbw5, hB5⟩))
      go_roundw
      case measure => simp [intOf]
      case rel =>
      refine ⟨7, by omega, by go_num, ⟨?_⟩, ⟨HB4.out.trans hB5.out⟩⟩
      have h5 := hbw5.out
      rw [show (catStr (([n0, n1, n2, n3, n4, n5, n6].take 6).map numStr)).data.toList ++ (numStr n6).data.toList = (catStr (([n0, n1, n2, n3, n4, n5, n6].take 6).map numStr) ++ numStr n6).data.toList from (by rw [ByteArray.toList_data_append])] at h5
      rw [show [n0, n1, n2, n3, n4, n5, n6].take 7 = [n0, n1, n2, n3, n4, n5] ++ [n6] from rfl, hnx.out]
      exact h5
    · have c7 := blk_cell HEr.out 7
      simp only [List.getElem?_toArray, List.getElem?_cons_zero, List.getElem?_cons_succ] at c7
      have HRr := Aside0.mk (Kd.C_below HR.out (HB1.out.trans (HB.out.mono HB1.out.size)))
      have hlen : Aside0 ((catStr (([n0, n1, n2, n3, n4, n5, n6].take 7).map numStr)).data.toList.length + (rowStr l).size ≤ 140737488355328) := ⟨by
        have h1 := cat_size ([n0, n1, n2, n3, n4, n5, n6].take 7)
        have h3 : ([n0, n1, n2, n3, n4, n5, n6].take 7).length ≤ 7 := by simp
        have h2 := HRS.out
        rw [Array.length_toList]
        show (catStr (([n0, n1, n2, n3, n4, n5, n6].take 7).map numStr)).size + _ ≤ _
        omega⟩
      go_wp2_with (first | (go_at_call 60; (with_reducible refine (codec_Row.calls A c l (rowStr l) 0 _ HRr.out hc HRow.out).mono ?_); rintro e w4 ⟨rfl, hb4⟩; have hbl4 := Aside0.mk (isBld_below hbl.out hb4); have HB4 := Aside0.mk (HB.out.trans (hb4.mono HB.out.size)); clear hb4))
      go_wp2_with (first | (go_at_call 59; (refine (bld_write w1.heap.size w1.heap.size _ (rowStr l) _ hbl4.out hlen.out HB4.out.size).mono ?_); rintro e w5 ⟨rfl, hbw5, hB5⟩; have HB5 := Aside0.mk (HB4.out.trans hB5.out)))
      go_wp2_with (first | (go_at_call 61; (refine (Try.Builder_String_any w1.heap.size w1.heap.size _ _ hbw5.out HB5.out.size).mono ?_); rintro e w6 ⟨rfl, hb6⟩; have HB6 := Aside0.mk (HB5.out.trans hb6); clear hb6))
      go_ret2
      refine ⟨?_, HB1.out.trans (HB6.out.mono HB1.out.size)⟩
      have hfin : ∀ a b : ByteArray, (⟨(a.data.toList ++ b.data.toList).toArray⟩ : ByteArray) = a ++ b := fun a b => ByteArray.ext (by rw [ByteArray.data_append]; simp)
      show Ending.returned (.tuple #[.string ⟨((catStr (([n0, n1, n2, n3, n4, n5, n6].take 7).map numStr)).data.toList ++ (rowStr l).data.toList).toArray⟩, .int .i64 0]) = _
      rw [hfin]
      rfl
theorem msg_Put.calls (a0_0 a0_1 a0_2 a0_3 a0_4 a0_5 a0_6 : Int) (A0_7 : Option Addr) (c0_7 : Nat) (l0_7 : List ByteArray) (r1 : ByteArray) (r2 : Int) (w : World) (hr0_7 : Kd.C Kd.string w A0_7 l0_7.length l0_7) (hc0_7 : l0_7.length ≤ c0_7) (h : msg_Put.f a0_0 a0_1 a0_2 a0_3 a0_4 a0_5 a0_6 l0_7 = some (r1, r2)) :
    Calls Try.prog 31 #[.agg #[.int .i64 a0_0, .int .i64 a0_1, .int .i64 a0_2, .int .i64 a0_3, .int .i64 a0_4, .int .i64 a0_5, .int .i64 a0_6, .slice A0_7 l0_7.length c0_7]] w fun e w' => e = .returned (.tuple #[.string r1, .int .i64 r2]) ∧ Below w.heap.size w w' := by
  unfold msg_Put.f at h
  cases hb : isB a0_0 a0_1 a0_2 a0_3 a0_4 a0_5 a0_6 l0_7
  · rw [hb, if_neg (by decide)] at h
    simp only [Option.some.injEq, Prod.mk.injEq] at h
    obtain ⟨rfl, rfl⟩ := h
    exact msg_Put_no A0_7 c0_7 _ _ _ _ _ _ _ l0_7 w hr0_7 hc0_7 hb
  · rw [hb, if_pos rfl] at h
    simp only [Option.some.injEq, Prod.mk.injEq] at h
    obtain ⟨rfl, rfl⟩ := h
    exact msg_Put_yes A0_7 c0_7 _ _ _ _ _ _ _ l0_7 w hr0_7 hc0_7 hb
end Go.Proofs.Ytfejidinfcmfjaa.P
/-
  codec.GetNumber, by hand. For every text of a size that a text may have.
-/
namespace Go.Proofs.Ytfejidinfcmfjaa.P
open Go.RowKit Go.Proofs.CodecPlain Go.Proofs.YtfejidinfcmfjaaW.PrintWords Go.Proofs.YtfejidinfcmfjaaW.PrintLast

/-- What codec.GetNumber answers. -/
def codec_GetNumber.f (a0 : ByteArray) : Option (Int × ByteArray × Bool) := some (getNum a0)

theorem toList_ne {s : ByteArray} (h : 0 < s.size) : s.toList.isEmpty = false := by
  rw [ByteArray.toList_eq]
  cases e : s.data.toList with
  | nil =>
    have h1 := congrArg List.length e
    rw [Array.length_toList] at h1
    have h2 : s.size = 0 := h1
    omega
  | cons a l => rfl

theorem getNum_no {s : ByteArray} (h : s.size = 0 ∨ 4 < hd s ∨ s.size ≤ hd s) : getNum s = (0, ⟨#[]⟩, false) := by unfold getNum; rw [if_pos h]

theorem getNum_is (s : ByteArray) (q : 0 < s.size) (h4 : hd s ≤ 4) (h5 : hd s < s.size) :
    getNum s = if hd s ≠ 0 ∧ hd (s.extract 1 (1 + hd s)) = 0 then (0, ⟨#[]⟩, false) else (accB (s.extract 1 (1 + hd s)).data.toList, s.extract (1 + hd s) s.size, true) := by
  unfold getNum; rw [if_neg (by omega)]

theorem hd_at {s : ByteArray} (h : 0 < s.size) : ((s[0]'h).toNat : Int) = (hd s : Int) := by simp [hd, h]

set_option maxHeartbeats 4000000 in
set_option maxRecDepth 100000 in
theorem codec_GetNumber_no (s : ByteArray) (w : World) (h : s.size = 0 ∨ 4 < hd s ∨ s.size ≤ hd s) :
    Calls Try.prog 64 #[.string s] w fun e w' => e = .returned (.tuple #[.int .i64 0, .string ⟨#[]⟩, .bool false]) ∧ Drawn0 w w' := by
  by_cases h0 : s.size = 0
  · obtain rfl : s = ⟨#[]⟩ := by
      cases s; rename_i d; simp [ByteArray.size] at h0; subst h0; rfl
    clear h h0
    go_enter Try.func64, Try.ntmps64
    go_wp2
    go_ret3
    exact ⟨rfl, Drawn0.refl _⟩
  · have q : 0 < s.size := by omega
    have hx := hd_at q
    have hlt : hd s < 256 := by unfold hd; rw [dif_pos q]; exact (s[0]).toNat_lt
    have en := toList_ne q
    obtain ⟨m, hm⟩ : ∃ m, m = hd s := ⟨_, rfl⟩
    rw [← hm] at hx h hlt
    clear h0 hm
    by_cases h4 : 4 < m
    · clear h
      go_enter Try.func64, Try.ntmps64
      go_wp2
      go_ret3
      exact ⟨rfl, Drawn0.refl _⟩
    · have h5 : s.size ≤ m := by omega
      clear h
      go_enter Try.func64, Try.ntmps64
      go_wp2
      go_ret3
      exact ⟨rfl, Drawn0.refl _⟩

theorem accB_take (b : ByteArray) (k : Nat) (h : k < b.size) : accB (b.data.toList.take (k + 1)) = accB (b.data.toList.take k) * 256 + (b[k].toNat : Int) := by
  have hl : k < b.data.toList.length := by rw [Array.length_toList]; exact h
  rw [List.take_succ_eq_append_getElem hl, accB_snoc]
  rfl
theorem accB_lt (b : ByteArray) (k : Nat) (h : k ≤ b.size) (h4 : b.size ≤ 4) (hk : k < b.size) : 0 ≤ accB (b.data.toList.take k) ∧ accB (b.data.toList.take k) < 16777216 := by
  have h1 := accB_bd (b.data.toList.take k)
  have hl : (b.data.toList.take k).length = k := by rw [List.length_take, Array.length_toList]; exact Nat.min_eq_left h
  rw [hl] at h1
  refine ⟨h1.1, Int.lt_of_lt_of_le h1.2 ?_⟩
  match k, h, hk with
  | 0, _, _ => decide
  | 1, _, _ => decide
  | 2, _, _ => decide
  | 3, _, _ => decide
  | k + 4, _, hk => omega
theorem accB_whole (b : ByteArray) : accB (b.data.toList.take b.size) = accB b.data.toList := by
  rw [List.take_of_length_le]; rw [Array.length_toList]; exact Nat.le_refl _
theorem or_byte (x y : Int) (hx : 0 ≤ x) (hx1 : x < 16777216) (hy : 0 ≤ y) (hy1 : y < 256) : Go.bits .or .i64 (x * 256) y = x * 256 + y :=
  bits_join .i64 63 (by decide) (fun n h0 h1 => IntWalk.i64_in n ⟨by omega, by omega⟩) 8 (x * 256) y (by omega) (by omega) (by omega) hy (by omega) (by omega)

set_option maxHeartbeats 4000000 in
set_option maxRecDepth 100000 in
theorem codec_GetNumber_0 (s : ByteArray) (w : World) (q : 0 < s.size) (hm : hd s = 0) (h5 : 0 < s.size) :
    Calls Try.prog 64 #[.string s] w fun e w' => e = .returned (.tuple #[.int .i64 (getNum s).1, .string (getNum s).2.1, .bool (getNum s).2.2]) ∧ Drawn0 w w' := by
  have hx := hd_at q
  have en := toList_ne q
  have hg0 := getNum_is s q (by omega) (by omega)
  rw [hm] at hx hg0
  have HG := Aside0.mk hg0
  clear hg0 hm
  have hw0 : IntKind.i64.wrap (1 + 0) = 1 := rfl
  have hi0 : (1 : Int) ≤ 1 := by omega
  have hi1 : 1 ≤ s.size := by omega
  have hi2 : (1 : Int) ≤ (s.size : Int) := by omega
  have hem : decide (s = ByteArray.empty) = false := decide_eq_false (by rintro rfl; exact absurd q (by decide))
  have hbs := Aside0.mk (show (s.extract 1 1).size = 0 by rw [ByteArray.size_extract]; omega)
  go_enter Try.func64, Try.ntmps64
  go_wp2
  go_quiet (fail)
  clear en hi1 hi2 hx hw0 hi0 h5 hem
  have he : s.extract 1 1 = ⟨#[]⟩ := by
    have := hbs.out
    cases h : s.extract 1 1 with
    | mk d => rw [h] at this; simp [ByteArray.size] at this; rw [this]
  have he0 : ByteArray.empty = ⟨#[]⟩ := rfl
  rw [he0]
  clear he0
  go_wp2
  go_loopw [7, 8, 46] (fun v _ i wr => v = .int .i64 0 ∧ i = .int .i64 0 ∧ Drawn0 w wr) (fun _ _ i _ => 0)
  case atStart => exact ⟨rfl, rfl, by repeat (first | exact Drawn0.refl _ | apply Drawn0.step)⟩
  case round =>
    obtain ⟨rfl, rfl, ⟨n, rfl⟩⟩ := hrel
    go_wp2
    go_ret3
    refine ⟨?_, ⟨_, rfl⟩⟩
    rw [HG.out, if_neg (by simp)]
    simp only [Nat.add_zero, he]
    rfl
set_option maxHeartbeats 4000000 in
set_option maxRecDepth 100000 in
theorem codec_GetNumber_1 (s : ByteArray) (w : World) (q : 0 < s.size) (hm : hd s = 1) (h5 : 1 < s.size) :
    Calls Try.prog 64 #[.string s] w fun e w' => e = .returned (.tuple #[.int .i64 (getNum s).1, .string (getNum s).2.1, .bool (getNum s).2.2]) ∧ Drawn0 w w' := by
  have hx := hd_at q
  have en := toList_ne q
  have hg0 := getNum_is s q (by omega) (by omega)
  rw [hm] at hx hg0
  have HG := Aside0.mk hg0
  clear hg0 hm
  have hw0 : IntKind.i64.wrap (1 + 1) = 2 := rfl
  have hi0 : (1 : Int) ≤ 2 := by omega
  have hi1 : 2 ≤ s.size := by omega
  have hi2 : (2 : Int) ≤ (s.size : Int) := by omega
  have hem : decide (s = ByteArray.empty) = false := decide_eq_false (by rintro rfl; exact absurd q (by decide))
  have hbs := Aside0.mk (show (s.extract 1 2).size = 1 by rw [ByteArray.size_extract]; omega)
  go_enter Try.func64, Try.ntmps64
  go_wp2
  go_quiet (fail)
  clear en hi1 hi2 hx hw0 hi0 h5 hem
  generalize s.extract 1 2 = b at *
  have q0 : 0 < b.size := by rw [hbs.out]; omega
  have hx := hd_at q0
  have en := toList_ne q0
  have en2 : b.toList ≠ [] := by intro h; rw [h] at en; cases en
  obtain ⟨h0, hh0⟩ : ∃ h0, h0 = hd b := ⟨_, rfl⟩
  rw [← hh0] at hx
  have HH := Aside0.mk hh0
  clear hh0
  by_cases hz : (h0 : Int) = 0
  · have e1 : ((h0 : Int) == 0) = true := by simpa using hz
    have HZ := Aside0.mk hz
    clear hz
    go_wp2
    go_ret3
    refine ⟨?_, by repeat (first | exact Drawn0.refl _ | apply Drawn0.step)⟩
    rw [HG.out, if_pos ⟨by omega, by rw [← HH.out]; have := HZ.out; omega⟩]
    rfl
  · have e1 : ((h0 : Int) == 0) = false := by simpa using hz
    have HZ := Aside0.mk hz
    clear hz
    go_wp2
    clear en en2 e1 hx
    clear q0
    have hlen : (b.size : Int) = 1 := by rw [hbs.out]; rfl
    go_loopw [7, 8, 46] (fun v _ i wr => ∃ k : Nat, k ≤ b.size ∧ i = .int .i64 k ∧ v = .int .i64 (accB (b.data.toList.take k)) ∧ Drawn0 w wr) (fun _ _ i _ => b.size - (intOf i).toNat)
    case atStart => exact ⟨0, Nat.zero_le _, rfl, rfl, by repeat (first | exact Drawn0.refl _ | apply Drawn0.step)⟩
    case round =>
      obtain ⟨k, hk, rfl, rfl, ⟨n, rfl⟩⟩ := hrel
      by_cases hlt : k < b.size
      · have hb1 := accB_lt b k hk (by omega) hlt
        have hb2 := b[k].toNat_lt
        have hob := or_byte (accB (b.data.toList.take k)) (b[k].toNat : Int) hb1.1 hb1.2 (by omega) (by omega)
        have hnx := Aside0.mk (accB_take b k hlt)
        go_wp2
        go_roundw
        case rel => exact ⟨k + 1, by omega, by go_num, by rw [hnx.out], ⟨_, rfl⟩⟩
        case measure => simp [intOf]; omega
      · obtain rfl : k = b.size := by omega
        have haw := Aside0.mk (accB_whole b)
        go_wp2
        go_ret3
        refine ⟨?_, ⟨_, rfl⟩⟩
        rw [HG.out, if_neg (by rintro ⟨_, h⟩; have h1 := HH.out; have h2 := HZ.out; omega), haw.out]
        rfl
set_option maxHeartbeats 4000000 in
set_option maxRecDepth 100000 in
theorem codec_GetNumber_2 (s : ByteArray) (w : World) (q : 0 < s.size) (hm : hd s = 2) (h5 : 2 < s.size) :
    Calls Try.prog 64 #[.string s] w fun e w' => e = .returned (.tuple #[.int .i64 (getNum s).1, .string (getNum s).2.1, .bool (getNum s).2.2]) ∧ Drawn0 w w' := by
  have hx := hd_at q
  have en := toList_ne q
  have hg0 := getNum_is s q (by omega) (by omega)
  rw [hm] at hx hg0
  have HG := Aside0.mk hg0
  clear hg0 hm
  have hw0 : IntKind.i64.wrap (1 + 2) = 3 := rfl
  have hi0 : (1 : Int) ≤ 3 := by omega
  have hi1 : 3 ≤ s.size := by omega
  have hi2 : (3 : Int) ≤ (s.size : Int) := by omega
  have hem : decide (s = ByteArray.empty) = false := decide_eq_false (by rintro rfl; exact absurd q (by decide))
  have hbs := Aside0.mk (show (s.extract 1 3).size = 2 by rw [ByteArray.size_extract]; omega)
  go_enter Try.func64, Try.ntmps64
  go_wp2
  go_quiet (fail)
  clear en hi1 hi2 hx hw0 hi0 h5 hem
  generalize s.extract 1 3 = b at *
  have q0 : 0 < b.size := by rw [hbs.out]; omega
  have hx := hd_at q0
  have en := toList_ne q0
  have en2 : b.toList ≠ [] := by intro h; rw [h] at en; cases en
  obtain ⟨h0, hh0⟩ : ∃ h0, h0 = hd b := ⟨_, rfl⟩
  rw [← hh0] at hx
  have HH := Aside0.mk hh0
  clear hh0
  by_cases hz : (h0 : Int) = 0
  · have e1 : ((h0 : Int) == 0) = true := by simpa using hz
    have HZ := Aside0.mk hz
    clear hz
    go_wp2
    go_ret3
    refine ⟨?_, by repeat (first | exact Drawn0.refl _ | apply Drawn0.step)⟩
    rw [HG.out, if_pos ⟨by omega, by rw [← HH.out]; have := HZ.out; omega⟩]
    rfl
  · have e1 : ((h0 : Int) == 0) = false := by simpa using hz
    have HZ := Aside0.mk hz
    clear hz
    go_wp2
    clear en en2 e1 hx
    clear q0
    have hlen : (b.size : Int) = 2 := by rw [hbs.out]; rfl
    go_loopw [7, 8, 46] (fun v _ i wr => ∃ k : Nat, k ≤ b.size ∧ i = .int .i64 k ∧ v = .int .i64 (accB (b.data.toList.take k)) ∧ Drawn0 w wr) (fun _ _ i _ => b.size - (intOf i).toNat)
    case atStart => exact ⟨0, Nat.zero_le _, rfl, rfl, by repeat (first | exact Drawn0.refl _ | apply Drawn0.step)⟩
    case round =>
      obtain ⟨k, hk, rfl, rfl, ⟨n, rfl⟩⟩ := hrel
      by_cases hlt : k < b.size
      · have hb1 := accB_lt b k hk (by omega) hlt
        have hb2 := b[k].toNat_lt
        have hob := or_byte (accB (b.data.toList.take k)) (b[k].toNat : Int) hb1.1 hb1.2 (by omega) (by omega)
        have hnx := Aside0.mk (accB_take b k hlt)
        go_wp2
        go_roundw
        case rel => exact ⟨k + 1, by omega, by go_num, by rw [hnx.out], ⟨_, rfl⟩⟩
        case measure => simp [intOf]; omega
      · obtain rfl : k = b.size := by omega
        have haw := Aside0.mk (accB_whole b)
        go_wp2
        go_ret3
        refine ⟨?_, ⟨_, rfl⟩⟩
        rw [HG.out, if_neg (by rintro ⟨_, h⟩; have h1 := HH.out; have h2 := HZ.out; omega), haw.out]
        rfl
set_option maxHeartbeats 4000000 in
set_option maxRecDepth 100000 in
theorem codec_GetNumber_3 (s : ByteArray) (w : World) (q : 0 < s.size) (hm : hd s = 3) (h5 : 3 < s.size) :
    Calls Try.prog 64 #[.string s] w fun e w' => e = .returned (.tuple #[.int .i64 (getNum s).1, .string (getNum s).2.1, .bool (getNum s).2.2]) ∧ Drawn0 w w' := by
  have hx := hd_at q
  have en := toList_ne q
  have hg0 := getNum_is s q (by omega) (by omega)
  rw [hm] at hx hg0
  have HG := Aside0.mk hg0
  clear hg0 hm
  have hw0 : IntKind.i64.wrap (1 + 3) = 4 := rfl
  have hi0 : (1 : Int) ≤ 4 := by omega
  have hi1 : 4 ≤ s.size := by omega
  have hi2 : (4 : Int) ≤ (s.size : Int) := by omega
  have hem : decide (s = ByteArray.empty) = false := decide_eq_false (by rintro rfl; exact absurd q (by decide))
  have hbs := Aside0.mk (show (s.extract 1 4).size = 3 by rw [ByteArray.size_extract]; omega)
  go_enter Try.func64, Try.ntmps64
  go_wp2
  go_quiet (fail)
  clear en hi1 hi2 hx hw0 hi0 h5 hem
  generalize s.extract 1 4 = b at *
  have q0 : 0 < b.size := by rw [hbs.out]; omega
  have hx := hd_at q0
  have en := toList_ne q0
  have en2 : b.toList ≠ [] := by intro h; rw [h] at en; cases en
  obtain ⟨h0, hh0⟩ : ∃ h0, h0 = hd b := ⟨_, rfl⟩
  rw [← hh0] at hx
  have HH := Aside0.mk hh0
  clear hh0
  by_cases hz : (h0 : Int) = 0
  · have e1 : ((h0 : Int) == 0) = true := by simpa using hz
    have HZ := Aside0.mk hz
    clear hz
    go_wp2
    go_ret3
    refine ⟨?_, by repeat (first | exact Drawn0.refl _ | apply Drawn0.step)⟩
    rw [HG.out, if_pos ⟨by omega, by rw [← HH.out]; have := HZ.out; omega⟩]
    rfl
  · have e1 : ((h0 : Int) == 0) = false := by simpa using hz
    have HZ := Aside0.mk hz
    clear hz
    go_wp2
    clear en en2 e1 hx
    clear q0
    have hlen : (b.size : Int) = 3 := by rw [hbs.out]; rfl
    go_loopw [7, 8, 46] (fun v _ i wr => ∃ k : Nat, k ≤ b.size ∧ i = .int .i64 k ∧ v = .int .i64 (accB (b.data.toList.take k)) ∧ Drawn0 w wr) (fun _ _ i _ => b.size - (intOf i).toNat)
    case atStart => exact ⟨0, Nat.zero_le _, rfl, rfl, by repeat (first | exact Drawn0.refl _ | apply Drawn0.step)⟩
    case round =>
      obtain ⟨k, hk, rfl, rfl, ⟨n, rfl⟩⟩ := hrel
      by_cases hlt : k < b.size
      · have hb1 := accB_lt b k hk (by omega) hlt
        have hb2 := b[k].toNat_lt
        have hob := or_byte (accB (b.data.toList.take k)) (b[k].toNat : Int) hb1.1 hb1.2 (by omega) (by omega)
        have hnx := Aside0.mk (accB_take b k hlt)
        go_wp2
        go_roundw
        case rel => exact ⟨k + 1, by omega, by go_num, by rw [hnx.out], ⟨_, rfl⟩⟩
        case measure => simp [intOf]; omega
      · obtain rfl : k = b.size := by omega
        have haw := Aside0.mk (accB_whole b)
        go_wp2
        go_ret3
        refine ⟨?_, ⟨_, rfl⟩⟩
        rw [HG.out, if_neg (by rintro ⟨_, h⟩; have h1 := HH.out; have h2 := HZ.out; omega), haw.out]
        rfl
set_option maxHeartbeats 4000000 in
set_option maxRecDepth 100000 in
theorem codec_GetNumber_4 (s : ByteArray) (w : World) (q : 0 < s.size) (hm : hd s = 4) (h5 : 4 < s.size) :
    Calls Try.prog 64 #[.string s] w fun e w' => e = .returned (.tuple #[.int .i64 (getNum s).1, .string (getNum s).2.1, .bool (getNum s).2.2]) ∧ Drawn0 w w' := by
  have hx := hd_at q
  have en := toList_ne q
  have hg0 := getNum_is s q (by omega) (by omega)
  rw [hm] at hx hg0
  have HG := Aside0.mk hg0
  clear hg0 hm
  have hw0 : IntKind.i64.wrap (1 + 4) = 5 := rfl
  have hi0 : (1 : Int) ≤ 5 := by omega
  have hi1 : 5 ≤ s.size := by omega
  have hi2 : (5 : Int) ≤ (s.size : Int) := by omega
  have hem : decide (s = ByteArray.empty) = false := decide_eq_false (by rintro rfl; exact absurd q (by decide))
  have hbs := Aside0.mk (show (s.extract 1 5).size = 4 by rw [ByteArray.size_extract]; omega)
  go_enter Try.func64, Try.ntmps64
  go_wp2
  go_quiet (fail)
  clear en hi1 hi2 hx hw0 hi0 h5 hem
  generalize s.extract 1 5 = b at *
  have q0 : 0 < b.size := by rw [hbs.out]; omega
  have hx := hd_at q0
  have en := toList_ne q0
  have en2 : b.toList ≠ [] := by intro h; rw [h] at en; cases en
  obtain ⟨h0, hh0⟩ : ∃ h0, h0 = hd b := ⟨_, rfl⟩
  rw [← hh0] at hx
  have HH := Aside0.mk hh0
  clear hh0
  by_cases hz : (h0 : Int) = 0
  · have e1 : ((h0 : Int) == 0) = true := by simpa using hz
    have HZ := Aside0.mk hz
    clear hz
    go_wp2
    go_ret3
    refine ⟨?_, by repeat (first | exact Drawn0.refl _ | apply Drawn0.step)⟩
    rw [HG.out, if_pos ⟨by omega, by rw [← HH.out]; have := HZ.out; omega⟩]
    rfl
  · have e1 : ((h0 : Int) == 0) = false := by simpa using hz
    have HZ := Aside0.mk hz
    clear hz
    go_wp2
    clear en en2 e1 hx
    clear q0
    have hlen : (b.size : Int) = 4 := by rw [hbs.out]; rfl
    go_loopw [7, 8, 46] (fun v _ i wr => ∃ k : Nat, k ≤ b.size ∧ i = .int .i64 k ∧ v = .int .i64 (accB (b.data.toList.take k)) ∧ Drawn0 w wr) (fun _ _ i _ => b.size - (intOf i).toNat)
    case atStart => exact ⟨0, Nat.zero_le _, rfl, rfl, by repeat (first | exact Drawn0.refl _ | apply Drawn0.step)⟩
    case round =>
      obtain ⟨k, hk, rfl, rfl, ⟨n, rfl⟩⟩ := hrel
      by_cases hlt : k < b.size
      · have hb1 := accB_lt b k hk (by omega) hlt
        have hb2 := b[k].toNat_lt
        have hob := or_byte (accB (b.data.toList.take k)) (b[k].toNat : Int) hb1.1 hb1.2 (by omega) (by omega)
        have hnx := Aside0.mk (accB_take b k hlt)
        go_wp2
        go_roundw
        case rel => exact ⟨k + 1, by omega, by go_num, by rw [hnx.out], ⟨_, rfl⟩⟩
        case measure => simp [intOf]; omega
      · obtain rfl : k = b.size := by omega
        have haw := Aside0.mk (accB_whole b)
        go_wp2
        go_ret3
        refine ⟨?_, ⟨_, rfl⟩⟩
        rw [HG.out, if_neg (by rintro ⟨_, h⟩; have h1 := HH.out; have h2 := HZ.out; omega), haw.out]
        rfl
theorem codec_GetNumber.calls (a0 : ByteArray) (r1 : Int) (r2 : ByteArray) (r3 : Bool) (w : World) (h : codec_GetNumber.f a0 = some (r1, r2, r3)) :
    Calls Try.prog 64 #[.string a0] w fun e w' => e = .returned (.tuple #[.int .i64 r1, .string r2, .bool r3]) ∧ Drawn0 w w' := by
  have hg : getNum a0 = (r1, r2, r3) := by simpa [codec_GetNumber.f] using h
  by_cases hno : a0.size = 0 ∨ 4 < hd a0 ∨ a0.size ≤ hd a0
  · have h2 := getNum_no hno
    rw [hg] at h2
    simp only [Prod.mk.injEq] at h2
    obtain ⟨rfl, rfl, rfl⟩ := h2
    exact codec_GetNumber_no a0 w hno
  · have q : 0 < a0.size := by omega
    have h5 : hd a0 < a0.size := by omega
    have hm : hd a0 = 0 ∨ hd a0 = 1 ∨ hd a0 = 2 ∨ hd a0 = 3 ∨ hd a0 = 4 := by omega
    rcases hm with hm | hm | hm | hm | hm
    · have := codec_GetNumber_0 a0 w q hm (by omega); rw [hg] at this; exact this
    · have := codec_GetNumber_1 a0 w q hm (by omega); rw [hg] at this; exact this
    · have := codec_GetNumber_2 a0 w q hm (by omega); rw [hg] at this; exact this
    · have := codec_GetNumber_3 a0 w q hm (by omega); rw [hg] at this; exact this
    · have := codec_GetNumber_4 a0 w q hm (by omega); rw [hg] at this; exact this
end Go.Proofs.Ytfejidinfcmfjaa.P
-- Written by a program of this session (xprint.py) over the kit's print.py.
namespace Go.Proofs.Ytfejidinfcmfjaa.P
open Go.RowKit Go.Proofs.YtfejidinfcmfjaaW.PrintWords Go.Proofs.YtfejidinfcmfjaaW.PrintLast Go.Proofs.YtfejidinfcmfjaaW.PrintMore
attribute [local go_sem] max2_int min2_int max_two min_two max_three min_three max_four min_four   -- for this text's walks alone
set_option linter.unusedVariables false
set_option linter.unusedSimpArgs false

/-! ### codec_GetText: function 88 -/
def codec_GetText.f (a0 : ByteArray) : Option (ByteArray × ByteArray × Bool) := (codec_GetNumber.f a0).bind fun bt356 => (if bt356.2.2 = true then (if bt356.1 > 4000 then (some ((⟨#[]⟩ : ByteArray), (⟨#[]⟩ : ByteArray), false)) else (if bt356.1 > (bt356.2.1.size : Int) then (some ((⟨#[]⟩ : ByteArray), (⟨#[]⟩ : ByteArray), false)) else (if 0 ≤ bt356.1 then (if bt356.1 ≤ (bt356.2.1.size : Int) then (some (bt356.2.1.extract 0 (bt356.1 : Int).toNat, bt356.2.1.extract (bt356.1 : Int).toNat bt356.2.1.size, true)) else (none)) else (none)))) else (some ((⟨#[]⟩ : ByteArray), (⟨#[]⟩ : ByteArray), false)))
set_option maxHeartbeats 8000000 in
set_option maxRecDepth 100000 in
theorem codec_GetText.calls (a0 : ByteArray) (r1 : ByteArray) (r2 : ByteArray) (r3 : Bool) (w : World) (h : codec_GetText.f a0 = some (r1, r2, r3)) :
    Calls Try.prog 88 #[.string a0] w fun e w' => e = .returned (.tuple #[.string r1, .string r2, .bool r3]) ∧ Drawn0 w w' := by
  have H : ((codec_GetNumber.f a0).bind fun bt356 => (if bt356.2.2 = true then (if bt356.1 > 4000 then (some ((⟨#[]⟩ : ByteArray), (⟨#[]⟩ : ByteArray), false)) else (if bt356.1 > (bt356.2.1.size : Int) then (some ((⟨#[]⟩ : ByteArray), (⟨#[]⟩ : ByteArray), false)) else (if 0 ≤ bt356.1 then (if bt356.1 ≤ (bt356.2.1.size : Int) then (some (bt356.2.1.extract 0 (bt356.1 : Int).toNat, bt356.2.1.extract (bt356.1 : Int).toNat bt356.2.1.size, true)) else (none)) else (none)))) else (some ((⟨#[]⟩ : ByteArray), (⟨#[]⟩ : ByteArray), false)))) = some (r1, r2, r3) := h
  clear h
  replace H := Option.bind_eq_some_iff.mp H
  obtain ⟨⟨t356, t357, t358⟩, A20, H⟩ := H
  replace H : (if t358 = true then (if t356 > 4000 then (some ((⟨#[]⟩ : ByteArray), (⟨#[]⟩ : ByteArray), false)) else (if t356 > (t357.size : Int) then (some ((⟨#[]⟩ : ByteArray), (⟨#[]⟩ : ByteArray), false)) else (if 0 ≤ t356 then (if t356 ≤ (t357.size : Int) then (some (t357.extract 0 (t356 : Int).toNat, t357.extract (t356 : Int).toNat t357.size, true)) else (none)) else (none)))) else (some ((⟨#[]⟩ : ByteArray), (⟨#[]⟩ : ByteArray), false))) = some (r1, r2, r3) := H
  have A2 := Aside0.mk A20
  clear A20
  by_cases c3 : t358 = true
  · subst c3
    have H1 : (if t356 > 4000 then (some ((⟨#[]⟩ : ByteArray), (⟨#[]⟩ : ByteArray), false)) else (if t356 > (t357.size : Int) then (some ((⟨#[]⟩ : ByteArray), (⟨#[]⟩ : ByteArray), false)) else (if 0 ≤ t356 then (if t356 ≤ (t357.size : Int) then (some (t357.extract 0 (t356 : Int).toNat, t357.extract (t356 : Int).toNat t357.size, true)) else (none)) else (none)))) = some (r1, r2, r3) := by rw [if_pos rfl] at H; exact H
    clear H
    have H := H1
    clear H1
    by_cases c4 : t356 > 4000
    · rw [if_pos c4] at H
      have c4b0 : decide (4000 < t356) = true := decide_eq_true c4
      clear c4
      simp only [Option.some.injEq, Prod.mk.injEq] at H
      obtain ⟨rfl, rfl, rfl⟩ := H
      go_enter Try.func88, Try.ntmps88
      go_wp2_with (first | (go_at_call 64; (with_reducible refine (codec_GetNumber.calls a0 t356 t357 true _ A2.out).mono ?_); rintro e w' ⟨rfl, ⟨nd, rfl⟩⟩; (try first | exact ⟨rfl, _, World.drewN_drewN _ _ _⟩ | exact ⟨rfl, _, Eq.trans (World.drewN_drewN _ _ _) (congrArg (World.drewN _) (Nat.add_assoc _ _ _))⟩)))
      repeat (go_quiet (first | (go_at_call 64; (with_reducible refine (codec_GetNumber.calls a0 t356 t357 true _ A2.out).mono ?_); rintro e w' ⟨rfl, ⟨nd, rfl⟩⟩; (try first | exact ⟨rfl, _, World.drewN_drewN _ _ _⟩ | exact ⟨rfl, _, Eq.trans (World.drewN_drewN _ _ _) (congrArg (World.drewN _) (Nat.add_assoc _ _ _))⟩))); try go_wp2_with (first | (go_at_call 64; (with_reducible refine (codec_GetNumber.calls a0 t356 t357 true _ A2.out).mono ?_); rintro e w' ⟨rfl, ⟨nd, rfl⟩⟩; (try first | exact ⟨rfl, _, World.drewN_drewN _ _ _⟩ | exact ⟨rfl, _, Eq.trans (World.drewN_drewN _ _ _) (congrArg (World.drewN _) (Nat.add_assoc _ _ _))⟩))))
      go_ret3
      exact ⟨by first | rfl | (simp; done) | (simp [*]; done), by repeat (first | exact Drawn0.refl _ | apply Drawn0.step)⟩
    · rw [if_neg c4] at H
      have c4b0 : decide (4000 < t356) = false := decide_eq_false c4
      clear c4
      by_cases c5 : t356 > (t357.size : Int)
      · rw [if_pos c5] at H
        have c5b0 : decide ((t357.size : Int) < t356) = true := decide_eq_true c5
        clear c5
        simp only [Option.some.injEq, Prod.mk.injEq] at H
        obtain ⟨rfl, rfl, rfl⟩ := H
        go_enter Try.func88, Try.ntmps88
        go_wp2_with (first | (go_at_call 64; (with_reducible refine (codec_GetNumber.calls a0 t356 t357 true _ A2.out).mono ?_); rintro e w' ⟨rfl, ⟨nd, rfl⟩⟩; (try first | exact ⟨rfl, _, World.drewN_drewN _ _ _⟩ | exact ⟨rfl, _, Eq.trans (World.drewN_drewN _ _ _) (congrArg (World.drewN _) (Nat.add_assoc _ _ _))⟩)))
        repeat (go_quiet (first | (go_at_call 64; (with_reducible refine (codec_GetNumber.calls a0 t356 t357 true _ A2.out).mono ?_); rintro e w' ⟨rfl, ⟨nd, rfl⟩⟩; (try first | exact ⟨rfl, _, World.drewN_drewN _ _ _⟩ | exact ⟨rfl, _, Eq.trans (World.drewN_drewN _ _ _) (congrArg (World.drewN _) (Nat.add_assoc _ _ _))⟩))); try go_wp2_with (first | (go_at_call 64; (with_reducible refine (codec_GetNumber.calls a0 t356 t357 true _ A2.out).mono ?_); rintro e w' ⟨rfl, ⟨nd, rfl⟩⟩; (try first | exact ⟨rfl, _, World.drewN_drewN _ _ _⟩ | exact ⟨rfl, _, Eq.trans (World.drewN_drewN _ _ _) (congrArg (World.drewN _) (Nat.add_assoc _ _ _))⟩))))
        go_ret3
        exact ⟨by first | rfl | (simp; done) | (simp [*]; done), by repeat (first | exact Drawn0.refl _ | apply Drawn0.step)⟩
      · rw [if_neg c5] at H
        have c5b0 : decide ((t357.size : Int) < t356) = false := decide_eq_false c5
        clear c5
        by_cases c6 : 0 ≤ t356
        · rw [if_pos c6] at H
          have c6b0 := eq_true c6
          have c6b1 : decide (0 ≤ t356) = true := decide_eq_true c6
          clear c6
          by_cases c7 : t356 ≤ (t357.size : Int)
          · rw [if_pos c7] at H
            have c7b0 := eq_true c7
            have c7b1 : decide (t356 ≤ (t357.size : Int)) = true := decide_eq_true c7
            clear c7
            have c8b0 := eq_true (of_decide_eq_true (by first | (with_reducible assumption) | assumption) : 0 ≤ t356)
            have c9b0 := eq_true (of_decide_eq_true (by first | (with_reducible assumption) | assumption) : t356 ≤ (t357.size : Int))
            simp only [Option.some.injEq, Prod.mk.injEq] at H
            obtain ⟨rfl, rfl, rfl⟩ := H
            go_enter Try.func88, Try.ntmps88
            go_wp2_with (first | (go_at_call 64; (with_reducible refine (codec_GetNumber.calls a0 t356 t357 true _ A2.out).mono ?_); rintro e w' ⟨rfl, ⟨nd, rfl⟩⟩; (try first | exact ⟨rfl, _, World.drewN_drewN _ _ _⟩ | exact ⟨rfl, _, Eq.trans (World.drewN_drewN _ _ _) (congrArg (World.drewN _) (Nat.add_assoc _ _ _))⟩)))
            repeat (go_quiet (first | (go_at_call 64; (with_reducible refine (codec_GetNumber.calls a0 t356 t357 true _ A2.out).mono ?_); rintro e w' ⟨rfl, ⟨nd, rfl⟩⟩; (try first | exact ⟨rfl, _, World.drewN_drewN _ _ _⟩ | exact ⟨rfl, _, Eq.trans (World.drewN_drewN _ _ _) (congrArg (World.drewN _) (Nat.add_assoc _ _ _))⟩))); try go_wp2_with (first | (go_at_call 64; (with_reducible refine (codec_GetNumber.calls a0 t356 t357 true _ A2.out).mono ?_); rintro e w' ⟨rfl, ⟨nd, rfl⟩⟩; (try first | exact ⟨rfl, _, World.drewN_drewN _ _ _⟩ | exact ⟨rfl, _, Eq.trans (World.drewN_drewN _ _ _) (congrArg (World.drewN _) (Nat.add_assoc _ _ _))⟩))))
            go_ret3
            exact ⟨by first | rfl | (simp; done) | (simp [*]; done), by repeat (first | exact Drawn0.refl _ | apply Drawn0.step)⟩
          · rw [if_neg c7] at H
            exact absurd H (by simp)
        · rw [if_neg c6] at H
          exact absurd H (by simp)
  · replace c3 := Bool.eq_false_iff.mpr c3
    subst c3
    have H1 : (some ((⟨#[]⟩ : ByteArray), (⟨#[]⟩ : ByteArray), false)) = some (r1, r2, r3) := by rw [if_neg (show ¬ (false = true) by decide)] at H; exact H
    clear H
    have H := H1
    clear H1
    simp only [Option.some.injEq, Prod.mk.injEq] at H
    obtain ⟨rfl, rfl, rfl⟩ := H
    go_enter Try.func88, Try.ntmps88
    go_wp2_with (first | (go_at_call 64; (with_reducible refine (codec_GetNumber.calls a0 t356 t357 false _ A2.out).mono ?_); rintro e w' ⟨rfl, ⟨nd, rfl⟩⟩; (try first | exact ⟨rfl, _, World.drewN_drewN _ _ _⟩ | exact ⟨rfl, _, Eq.trans (World.drewN_drewN _ _ _) (congrArg (World.drewN _) (Nat.add_assoc _ _ _))⟩)))
    repeat (go_quiet (first | (go_at_call 64; (with_reducible refine (codec_GetNumber.calls a0 t356 t357 false _ A2.out).mono ?_); rintro e w' ⟨rfl, ⟨nd, rfl⟩⟩; (try first | exact ⟨rfl, _, World.drewN_drewN _ _ _⟩ | exact ⟨rfl, _, Eq.trans (World.drewN_drewN _ _ _) (congrArg (World.drewN _) (Nat.add_assoc _ _ _))⟩))); try go_wp2_with (first | (go_at_call 64; (with_reducible refine (codec_GetNumber.calls a0 t356 t357 false _ A2.out).mono ?_); rintro e w' ⟨rfl, ⟨nd, rfl⟩⟩; (try first | exact ⟨rfl, _, World.drewN_drewN _ _ _⟩ | exact ⟨rfl, _, Eq.trans (World.drewN_drewN _ _ _) (congrArg (World.drewN _) (Nat.add_assoc _ _ _))⟩))))
    go_ret3
    exact ⟨by first | rfl | (simp; done) | (simp [*]; done), by repeat (first | exact Drawn0.refl _ | apply Drawn0.step)⟩

end Go.Proofs.Ytfejidinfcmfjaa.P
/-
  codec.GetRow, by hand, and the function value that it takes one text behind the other from. For every text.
-/
namespace Go.Proofs.Ytfejidinfcmfjaa.P
open Go.RowKit Go.Proofs.CodecPlain Go.Proofs.YtfejidinfcmfjaaW.PrintWords Go.Proofs.YtfejidinfcmfjaaW.PrintLast Go.Proofs.YtfejidinfcmfjaaW.PrintMore

theorem getText_f (s : ByteArray) : codec_GetText.f s = some (getText s) := by
  unfold codec_GetText.f codec_GetNumber.f getText
  simp only [Option.bind_some]
  have := getNum_bd s
  by_cases h1 : (getNum s).2.2 = true
  · rw [if_pos h1]
    by_cases h2 : (getNum s).1 > 4000
    · rw [if_pos h2, if_neg (by omega)]
    · rw [if_neg h2]
      by_cases h3 : (getNum s).1 > ((getNum s).2.1.size : Int)
      · rw [if_pos h3, if_neg (by omega)]
      · rw [if_neg h3, if_pos (by omega), if_pos (by omega), if_pos ⟨h1, by omega, by omega⟩]
  · rw [if_neg h1, if_neg (by rintro ⟨h, _⟩; exact h1 h)]

set_option maxHeartbeats 1000000 in
theorem codec_texts_calls (s : ByteArray) (w : World) :
    Calls Try.prog 81 #[.string s] w fun e w' => e = .returned (.func (.func 87) #[] #[.pointer (some ⟨w.heap.size, 0, none⟩)]) ∧ w' = w.alloc (.cells #[.string s] 9) := by
  go_enter Try.func81, Try.ntmps81
  go_wp2
  go_ret
  exact ⟨rfl, rfl⟩

theorem keep_set {w : World} {B n m : Nat} {v : Value} : KeepBut w (((w.drewN m).setCell ⟨B, 0, none⟩ v).drewN n) B none :=
  ⟨by show w.heap.size ≤ (w.heap.modify _ _).size; rw [Array.size_modify]; exact Nat.le_refl _, fun i _ h _ => Below.heap_setCell w ⟨B, 0, none⟩ v i h⟩

set_option maxHeartbeats 1000000 in
theorem codec_texts1_calls (s : ByteArray) (B : Nat) (w : World) (hb : Boxed w B 9 (.string s)) (r1 r2 : ByteArray) (r3 : Bool) (hgt : getText s = (r1, r2, r3)) :
    Calls Try.prog 87 #[.pointer (some ⟨B, 0, none⟩)] w fun e w' => e = .returned (.tuple #[.string r1, .string r2, .bool r3]) ∧
      Aside0 (Boxed w' B 9 (.string r2)) ∧ Aside0 (KeepBut w w' B none) ∧ Aside0 (∀ n₀, n₀ ≤ B → Below n₀ w w') := by
  have hc := hb.cell
  have hf := hb.frozen
  have hg := Aside0.mk (getText_f s)
  rw [hgt] at hg
  have HB := Aside0.mk hb
  clear hb hgt
  go_enter Try.func87, Try.ntmps87
  go_wp2_with (go_at_call 88; refine (codec_GetText.calls _ _ _ _ _ hg.out).mono ?_; rintro e w3 ⟨rfl, ⟨n3, rfl⟩⟩)
  have HB2 := Aside0.mk (HB.out.set (.string r2))
  have hc2 := HB2.out.cell
  repeat (go_quiet (fail); try go_wp2)
  go_ret3
  exact ⟨rfl, ⟨HB2.out⟩, ⟨keep_set⟩, ⟨fun n₀ h => pw_below_drewN ((pw_below_drewN (Below.refl _ _) _).setCell (p := ⟨B, 0, none⟩) h _) _⟩⟩

theorem infoStr : (Try.prog.info? 9).map (fun i => (i.zero, i.size, i.bytes)) = some (some (.string ⟨#[]⟩), 1, 16) := by kernel_rfl

/-- What codec.GetRow answers. -/
def codec_GetRow.f (a0 : ByteArray) : Option (List ByteArray × ByteArray × Bool) := some (getRow a0)

set_option maxHeartbeats 4000000 in
set_option maxRecDepth 100000 in
theorem codec_GetRow_in (s : ByteArray) (w : World) (h1 : (getNum s).2.2 = true) (h2 : (getNum s).1 ≤ 1000) :
    Calls Try.prog 65 #[.string s] w fun e w' => ∃ (v : Value) (r1 : List ByteArray) (r2 : ByteArray) (r3 : Bool), Aside0 (getRow s = (r1, r2, r3)) ∧ e = .returned (.tuple #[v, .string r2, .bool r3]) ∧ Kd.R Kd.string 9 w' w.heap.size (fun _ => True) v r1 ∧ Below w.heap.size w w' := by
  have hb0 := getNum_bd s
  have hrow := Aside0.mk (show getRow s = getTexts (getNum s).1.toNat (getNum s).2.1 by unfold getRow; rw [if_pos ⟨h1, h2⟩])
  have hf0 : codec_GetNumber.f s = some (getNum s) := rfl
  obtain ⟨n, rest, ok, hn⟩ : ∃ n rest ok, getNum s = (n, rest, ok) := ⟨_, _, _, rfl⟩
  rw [hn] at h1 h2 hb0 hrow hf0
  have hf := Aside0.mk hf0
  simp only at h1 h2 hb0 hrow
  subst h1
  obtain ⟨N, rfl⟩ : ∃ N : Nat, n = N := ⟨n.toNat, by omega⟩
  clear hn hf0 hb0
  rw [Int.toNat_natCast] at hrow
  go_enter Try.func65, Try.ntmps65
  go_wp2_with (go_at_call 64; refine (codec_GetNumber.calls _ _ _ _ _ hf.out).mono ?_; rintro e w3 ⟨rfl, ⟨n3, rfl⟩⟩)
  go_wp2_with (go_at_call 81; refine (codec_texts_calls _ _).mono ?_; rintro e w3 ⟨rfl, rfl⟩)
  have hbx := Aside0.mk (Boxed.new (w.drewN n3) 9 (.string rest))
  have HB := Aside0.mk ((pw_below_drewN (Below.refl w.heap.size w) n3).alloc (Nat.le_refl _) (.cells #[.string rest] 9))
  go_loopw [6, 8, 28] (fun r v i wr => ∃ (k : Nat) (L : List ByteArray) (cur c2 : ByteArray), k ≤ N ∧ i = .int .i64 k ∧ r = .string cur ∧ c2 = cur ∧ Aside0 (getRow s = withL L (getTexts (N - k) cur)) ∧ Aside0 (L.length = k) ∧ Aside0 (Boxed wr w.heap.size 9 (.string c2)) ∧ Aside0 (Kd.R Kd.string 9 wr w.heap.size (fun q => q ≠ w.heap.size) v L) ∧ Aside0 (Below w.heap.size w wr))
    (fun _ _ i _ => N - (intOf i).toNat)
  case atStart => exact ⟨0, [], rest, rest, Nat.zero_le _, rfl, rfl, rfl, ⟨by rw [hrow.out, withL_nil, Nat.sub_zero]⟩, ⟨rfl⟩, ⟨hbx.out⟩, ⟨Kd.R_nil _ _ _ _ _⟩, HB⟩
  case round =>
    clear hrow hbx HB
    obtain ⟨k, L, cur, c2, hk, rfl, rfl, rfl, HG, HL, hbx, HO, HB⟩ := hrel
    by_cases hlt : k < N
    · obtain ⟨r1, r2, r3, hgt⟩ : ∃ r1 r2 r3, getText c2 = (r1, r2, r3) := ⟨_, _, _, rfl⟩
      have HT := Aside0.mk hgt
      clear hgt
      cases r3
      · have hres := Aside0.mk (show getRow s = ([], ⟨#[]⟩, false) by
          rw [HG.out, show N - k = (N - k - 1) + 1 by omega]; exact withL_stop _ _ _ (by rw [HT.out]))
        go_wp2_with (go_at_call 87; refine (codec_texts1_calls _ _ _ hbx.out _ _ _ HT.out).mono ?_; rintro e w4 ⟨rfl, hbx4, hk4, hb4⟩)
        go_ret3
        exact ⟨_, _, _, _, hres, rfl, Kd.R_nil _ _ _ _ _, HB.out.trans (hb4.out _ (Nat.le_refl _))⟩
      · have hnx := Aside0.mk (show getRow s = withL (L ++ [r1]) (getTexts (N - (k + 1)) r2) by
          rw [HG.out, show N - k = (N - (k + 1)) + 1 by omega, withL_step _ _ _ (by rw [HT.out]), HT.out])
        go_wp2_with (first | (go_at_call 87; refine (codec_texts1_calls _ _ _ hbx.out _ _ _ HT.out).mono ?_; rintro e w4 ⟨rfl, hbx4, hk4, hb4⟩; have HO4 := Aside0.mk (Kd.R_keep HO.out hk4.out (fun k hk => hk)); have HB4 := Aside0.mk (HB.out.trans (hb4.out _ (Nat.le_refl _))); clear hk4 hb4 HO HB) | ((with_reducible refine gate_builtin (b := .append) (xs := #[.tmp 38, .tmp 40]) rfl ?_); at_builtin; refine Kd.R_append Kd.string (w0 := w) w.heap.size rfl (.tmp 38) (.tmp 40) 27 9 (.string ⟨#[]⟩) 16 rfl Try.underlying27 infoStr rfl (by decide) (by omega) _ L r1 [.string r1] (fun q => q ≠ w.heap.size) (fun _ => False) rfl rfl ?aP (fun _ hk => hk.elim) ?aF ?aO ?aB ?aS ?aL ?_; (case aP => exact rfl); (case aB => exact HB4.out); (case aF => exact (fun q hq => by have := hbx4.out.lt; omega)); (case aO => exact HO4.out); (case aS => exact HB4.out.size); (case aL => have := HL.out; omega); intro v1 w5 ho hb hg hat; have HO5 := Aside0.mk ho; have HB5 := Aside0.mk hb; have hbx5 := Aside0.mk (hbx4.out.kept hg (fun e => by have := (HO4.out).1 _ e.symm; omega)); clear ho hb hg hat))
        go_roundw
        case rel => exact ⟨k + 1, L ++ [r1], r2, r2, by omega, by go_num, rfl, rfl, hnx, ⟨by simp [HL.out]⟩, hbx5, HO5, HB5⟩
        case measure => simp [intOf]; omega
    · obtain rfl : k = N := by omega
      have hres := Aside0.mk (show getRow s = (L, c2, true) by
        rw [HG.out, Nat.sub_self]; simp [withL, getTexts])
      go_wp2
      go_ret3
      exact ⟨_, _, _, _, hres, rfl, Kd.R_mono HO.out (fun _ _ => trivial), HB.out⟩

theorem codec_GetRow.calls (a0 : ByteArray) (r1 : List ByteArray) (r2 : ByteArray) (r3 : Bool) (w : World) (h : codec_GetRow.f a0 = some (r1, r2, r3)) :
    Calls Try.prog 65 #[.string a0] w fun e w' => ∃ v0_ : Value, e = .returned (.tuple #[v0_, .string r2, .bool r3]) ∧ Kd.R Kd.string 9 w' w.heap.size (fun _ => True) v0_ r1 ∧ Below w.heap.size w w' := by
  have hg : getRow a0 = (r1, r2, r3) := by simpa [codec_GetRow.f] using h
  clear h
  by_cases hc : (getNum a0).2.2 = true ∧ (getNum a0).1 ≤ 1000
  · refine (codec_GetRow_in a0 w hc.1 hc.2).mono ?_
    rintro e w' ⟨v, s1, s2, s3, hs, rfl, hR, hB⟩
    have := hs.out.symm.trans hg
    simp only [Prod.mk.injEq] at this
    obtain ⟨rfl, rfl, rfl⟩ := this
    exact ⟨v, rfl, hR, hB⟩
  · have h2 : getRow a0 = ([], ⟨#[]⟩, false) := by unfold getRow; rw [if_neg hc]
    rw [hg] at h2
    simp only [Prod.mk.injEq] at h2
    obtain ⟨rfl, rfl, rfl⟩ := h2
    clear hg
    have hf0 : codec_GetNumber.f a0 = some (getNum a0) := rfl
    obtain ⟨n, rest, ok, hn⟩ : ∃ n rest ok, getNum a0 = (n, rest, ok) := ⟨_, _, _, rfl⟩
    rw [hn] at hc hf0
    have hf := Aside0.mk hf0
    clear hf0 hn
    cases ok
    · clear hc
      go_enter Try.func65, Try.ntmps65
      go_wp2_with (go_at_call 64; refine (codec_GetNumber.calls _ _ _ _ _ hf.out).mono ?_; rintro e w3 ⟨rfl, ⟨n3, rfl⟩⟩)
      go_ret3
      exact ⟨_, rfl, Kd.R_nil _ _ _ _ _, pw_below_drewN (Below.refl _ _) _⟩
    · have hgt : 1000 < n := by simpa using hc
      clear hc
      go_enter Try.func65, Try.ntmps65
      go_wp2_with (go_at_call 64; refine (codec_GetNumber.calls _ _ _ _ _ hf.out).mono ?_; rintro e w3 ⟨rfl, ⟨n3, rfl⟩⟩)
      go_ret3
      exact ⟨_, rfl, Kd.R_nil _ _ _ _ _, pw_below_drewN (Below.refl _ _) _⟩
end Go.Proofs.Ytfejidinfcmfjaa.P
