/-
  What the references of chapter 1 answer, told plainly.
-/
import Derived.Test.YtnkakhcombmdoaaMcodecLaw
import Derived.Test.YtnkakhcombmdoaaHcodecRow
import Derived.Test.YtnkakhcombmdoaaHcodecGetRow
import Derived.Test.YtnkakhcombmdoaaFsextonref01Number
import Derived.Test.YtnkakhcombmdoaaFsextonref01Text
import Derived.Test.YtnkakhcombmdoaaFsextonref01Row
import Derived.Test.YtnkakhcombmdoaaFsextonref01Own
import Derived.Test.YtnkakhcombmdoaaFsextonref01Texts
namespace Go.Proofs.Ytnkakhcombmdoaa.P
open Go.RowKit Go.Proofs.CodecPlain Go.Proofs.YtnkakhcombmdoaaW.PrintWords Go.Proofs.YtnkakhcombmdoaaW.PrintLast

theorem ev_if_pos {α : Type} {p : Nat → Prop} [∀ k, Decidable (p k)] {a b : Nat → Option α} {r : α} (h : ∀ k, p k) (k : Ev a r) : Ev (fun n => if p n then a n else b n) r :=
  k.congr (fun n => if_pos (h n))
theorem toList_inj {a b : ByteArray} (h : a.toList = b.toList) : a = b := by
  rw [ByteArray.toList_eq, ByteArray.toList_eq] at h; exact ba_ext h
theorem wrap_id {x : Int} (h0 : -9223372036854775808 ≤ x) (h1 : x ≤ 9223372036854775807) : wrap64 x = x := by unfold wrap64; omega

theorem strOfNums_size (l : List Int) : (strOfNums l).size = l.length := by simp [strOfNums, ByteArray.size]
theorem strOfNums_list (l : List Int) : (strOfNums l).data.toList = l.map u8 := by simp [strOfNums, u8]

theorem refNumber_l0 : ∀ x : Int, 0 ≤ x → x < 4294967296 → ∀ (acc : ByteArray) (c : Int), acc.size + (nbytes x).length ≤ 1000 → 0 ≤ c → c + ((nbytes x).length : Int) ≤ 1000 →
    Ev (fun k => sextonref01_Number.l0 k x acc c) (strOfNums [(c + ((nbytes x).length : Int)) % 256] ++ (strOfNums (nbytes x) ++ acc), 0) := by
  apply nat_ind
  intro x h0 ih h1 acc c ha hc0 hc1
  by_cases hz : x = 0
  · subst hz
    refine Ev.step (f := fun _ => some (strOfNums [c % 256] ++ acc, 0)) (fun k => ?_) ?_
    · simp only [sextonref01_Number.l0]
      rw [if_neg (by omega)]
      simp only [Option.bind_some]
      rw [if_pos (by rw [strOfNums_size]; simp; omega)]
    · rw [nbytes_zero]
      have : strOfNums [] ++ acc = acc := ba_ext (by rw [app_list, strOfNums_list]; rfl)
      simp only [List.length_nil, Int.natCast_zero, Int.add_zero, this]
      exact Ev.now _
  · refine Ev.step (f := fun k => sextonref01_Number.l0 k (x / 256) (strOfNums [x % 256] ++ acc) (c + 1)) (fun k => ?_) ?_
    · simp only [sextonref01_Number.l0]
      rw [if_pos (by omega)]
      simp only [Option.bind_some]
      rw [if_pos (by rw [strOfNums_size]; simp; omega), Int.tdiv_eq_ediv_of_nonneg h0, wrap_id (x := x / 256) (by omega) (by omega), wrap_id (x := c + 1) (by omega) (by omega), Int.tmod_eq_emod_of_nonneg h0]
      congr 4
      omega
    · have hlen : (nbytes x).length = (nbytes (x / 256)).length + 1 := by rw [nbytes_rec x (by omega) h1]; simp
      have := ih (x / 256) (by omega) (by omega) (by omega) (strOfNums [x % 256] ++ acc) (c + 1) (by
        rw [CodecPlain.size_append, strOfNums_size]; simp; rw [hlen] at ha; omega) (by omega) (by omega)
      rw [nbytes_rec x (by omega) h1]
      have e1 : strOfNums (nbytes (x / 256)) ++ (strOfNums [x % 256] ++ acc) = strOfNums (nbytes (x / 256) ++ [x % 256]) ++ acc := ba_ext (by simp only [app_list, strOfNums_list]; simp)
      rw [e1] at this
      have e2 : c + 1 + ((nbytes (x / 256)).length : Int) = c + ((nbytes (x / 256) ++ [x % 256]).length : Int) := by simp; omega
      rw [e2] at this
      exact this

theorem refNumber (n : Int) : Ev (fun k => sextonref01_Number.f k n) (if 0 ≤ n ∧ n ≤ 4294967295 then (numStr n, 0) else (⟨#[]⟩, 1)) := by
  by_cases h0 : n < 0
  · rw [if_neg (by omega)]
    refine Ev.congr (f := fun k => sextonref01_Number.j0 k n true) (fun k => by unfold sextonref01_Number.f; rw [if_pos h0]) ?_
    exact Ev.step (f := fun _ => some (⟨#[]⟩, 1)) (fun k => by simp [sextonref01_Number.j0]) (Ev.now _)
  · refine Ev.congr (f := fun k => sextonref01_Number.j0 k n (decide (n > 4294967295))) (fun k => by unfold sextonref01_Number.f; rw [if_neg h0]) ?_
    by_cases h1 : n > 4294967295
    · rw [if_neg (by omega), decide_eq_true h1]
      exact Ev.step (f := fun _ => some (⟨#[]⟩, 1)) (fun k => by simp [sextonref01_Number.j0]) (Ev.now _)
    · rw [if_pos (by omega), decide_eq_false h1]
      refine Ev.step (f := fun k => sextonref01_Number.l0 k n ⟨#[]⟩ 0) (fun k => by simp [sextonref01_Number.j0]) ?_
      have hl := nbytes_length n
      have := refNumber_l0 n (by omega) (by omega) ⟨#[]⟩ 0 (by have : (⟨#[]⟩ : ByteArray).size = 0 := rfl; omega) (by omega) (by omega)
      have e : strOfNums [(0 + ((nbytes n).length : Int)) % 256] ++ (strOfNums (nbytes n) ++ ⟨#[]⟩) = numStr n := ba_ext (by
        simp only [app_list, strOfNums_list, numStr_list]
        rw [show (0 + ((nbytes n).length : Int)) % 256 = ((nbytes n).length : Int) by omega]
        simp)
      rw [e] at this
      exact this

theorem refText (s : ByteArray) : Ev (fun k => sextonref01_Text.f k s) (if s.size ≤ 4000 then (textStr s, 0) else (⟨#[]⟩, 2)) := by
  by_cases h : s.size ≤ 4000
  · rw [if_pos h]
    have hn := refNumber (s.size : Int)
    rw [if_pos (by omega)] at hn
    have hs := numStr_size (s.size : Int)
    refine Ev.congr (f := fun k => (sextonref01_Number.f k (s.size : Int)).bind fun bt116 => (if bt116.1.size + s.size ≤ 9223372036854775807 then (some (bt116.1 ++ s, 0)) else (none))) (fun k => by unfold sextonref01_Text.f; rw [if_neg (by omega)]) ?_
    refine Ev.bind hn (Ev.congr (f := fun _ => some (textStr s, 0)) (fun k => ?_) (Ev.now _))
    simp only
    rw [if_pos (by omega)]
    rfl
  · rw [if_neg h]
    exact Ev.congr (f := fun _ => some (⟨#[]⟩, 2)) (fun k => by unfold sextonref01_Text.f; rw [if_pos (by omega)]) (Ev.now _)

/-- What a row's loop tells, some texts having been told. -/
theorem refRow_l0 (l : List ByteArray) (hl : l.length ≤ 1000) (d : Nat) : ∀ (k : Nat) (acc : ByteArray), k + d = l.length → acc.size ≤ 5 + k * 4005 →
    Ev (fun r => sextonref01_Row.l0 r l acc (k : Int)) (if (l.drop k).all (fun s => decide (s.size ≤ 4000)) = true then (acc ++ catStr ((l.drop k).map textStr), 0) else (⟨#[]⟩, 2)) := by
  induction d with
  | zero =>
    intro k acc hk ha
    have hd : l.drop k = [] := List.drop_of_length_le (by omega)
    rw [hd]
    refine Ev.step (f := fun _ => some (acc, 0)) (fun r => by simp only [sextonref01_Row.l0]; rw [if_neg (by omega)]) ?_
    have : acc ++ catStr [] = acc := ba_ext (by simp [app_list, catStr])
    simp only [List.all_nil, List.map_nil, if_true, this]
    exact Ev.now _
  | succ d ih =>
    intro k acc hk ha
    have hlt : k < l.length := by omega
    have hd : l.drop k = l[k] :: l.drop (k + 1) := List.drop_eq_getElem_cons hlt
    have ht := refText l[k]
    refine Ev.step (f := fun r => (sextonref01_Text.f r l[k]).bind fun bt121 => (if bt121.2 = 0 then (if acc.size + bt121.1.size ≤ 9223372036854775807 then (sextonref01_Row.l0 r l (acc ++ bt121.1) ((k + 1 : Nat) : Int)) else (none)) else (some ((⟨#[]⟩ : ByteArray), bt121.2)))) (fun r => ?_) ?_
    · simp only [sextonref01_Row.l0]
      rw [if_pos (by omega), if_pos (by omega), rd_string l k hlt, wrap_id (by omega) (by omega)]
      rfl
    · by_cases hs : l[k].size ≤ 4000
      · rw [if_pos hs] at ht
        have hts := textStr_size l[k]
        refine Ev.bind ht ?_
        have hn := ih (k + 1) (acc ++ textStr l[k]) (by omega) (by rw [CodecPlain.size_append]; omega)
        refine Ev.congr (f := fun r => sextonref01_Row.l0 r l (acc ++ textStr l[k]) ((k + 1 : Nat) : Int)) (fun r => by simp only; rw [if_pos trivial, if_pos (by omega)]) ?_
        rw [hd]
        simp only [List.all_cons, hs, decide_true, Bool.true_and, List.map_cons, catStr]
        rw [← ByteArray.append_assoc]
        exact hn
      · rw [if_neg hs] at ht
        refine Ev.bind ht ?_
        refine Ev.congr (f := fun _ => some (⟨#[]⟩, 2)) (fun r => by simp only; rw [if_neg (by decide)]) ?_
        rw [hd, if_neg (fun h => hs (of_decide_eq_true (List.all_eq_true.1 h l[k] List.mem_cons_self)))]
        exact Ev.now _

theorem refRow (l : List ByteArray) : Ev (fun k => sextonref01_Row.f k l) (if 1000 < l.length then (⟨#[]⟩, 2) else if l.all (fun s => decide (s.size ≤ 4000)) = true then (rowStr l, 0) else (⟨#[]⟩, 2)) := by
  by_cases h : 1000 < l.length
  · rw [if_pos h]
    exact Ev.congr (f := fun _ => some (⟨#[]⟩, 2)) (fun k => by unfold sextonref01_Row.f; rw [if_pos (by omega)]) (Ev.now _)
  · rw [if_neg h]
    have hn := refNumber (l.length : Int)
    rw [if_pos (by omega)] at hn
    have hs := numStr_size (l.length : Int)
    refine Ev.congr (f := fun k => (sextonref01_Number.f k (l.length : Int)).bind fun bt118 => (sextonref01_Row.l0 k l bt118.1 0)) (fun k => by unfold sextonref01_Row.f; rw [if_neg (by omega)]) ?_
    exact Ev.bind hn (refRow_l0 l (by omega) l.length 0 (numStr (l.length : Int)) (by omega) (by omega))

theorem refTexts_l0 (a b : List ByteArray) (hl : a.length = b.length) (hm : a.length ≤ 9223372036854775806) (d : Nat) : ∀ k : Nat, k + d = a.length → Ev (fun r => sextonref01_Texts.l0 r a b (k : Int)) (decide (a.drop k = b.drop k)) := by
  induction d with
  | zero =>
    intro k hk
    have h1 : a.drop k = [] := List.drop_of_length_le (by omega)
    have h2 : b.drop k = [] := List.drop_of_length_le (by omega)
    rw [h1, h2]
    exact Ev.step (f := fun _ => some true) (fun r => by simp only [sextonref01_Texts.l0]; rw [if_neg (by omega)]) (Ev.now _)
  | succ d ih =>
    intro k hk
    have ha : k < a.length := by omega
    have hb : k < b.length := by omega
    have e1 : a.drop k = a[k] :: a.drop (k + 1) := List.drop_eq_getElem_cons ha
    have e2 : b.drop k = b[k] :: b.drop (k + 1) := List.drop_eq_getElem_cons hb
    by_cases he : a[k] = b[k]
    · refine Ev.step (f := fun r => sextonref01_Texts.l0 r a b ((k + 1 : Nat) : Int)) (fun r => ?_) ?_
      · simp only [sextonref01_Texts.l0]
        rw [if_pos (by omega), if_pos (by omega), if_pos (by omega), rd_string a k ha, rd_string b k hb, if_pos (by rw [he]), wrap_id (by omega) (by omega)]
        rfl
      · have := ih (k + 1) (by omega)
        rw [e1, e2, he]
        simp only [List.cons.injEq, true_and]
        exact this
    · refine Ev.step (f := fun _ => some false) (fun r => ?_) ?_
      · simp only [sextonref01_Texts.l0]
        rw [if_pos (by omega), if_pos (by omega), if_pos (by omega), rd_string a k ha, rd_string b k hb, if_neg (fun h => he (toList_inj h))]
      · rw [e1, e2, decide_eq_false (fun h => he (List.cons.inj h).1)]
        exact Ev.now _
theorem refTexts (a b : List ByteArray) (hm : a.length ≤ 9223372036854775806) : Ev (fun r => sextonref01_Texts.f r a b) (decide (a = b)) := by
  by_cases hl : a.length = b.length
  · refine Ev.congr (f := fun r => sextonref01_Texts.l0 r a b 0) (fun r => by unfold sextonref01_Texts.f; rw [if_pos (by omega)]) ?_
    have := refTexts_l0 a b hl hm a.length 0 (by omega)
    simpa using this
  · rw [decide_eq_false (fun h => hl (by rw [h]))]
    exact Ev.congr (f := fun _ => some false) (fun r => by unfold sextonref01_Texts.f; rw [if_neg (by omega)]) (Ev.now _)
theorem refOwn (l : List ByteArray) (h : l.length < 8796093022208) : sextonref01_Own.f l = some l := by
  unfold sextonref01_Own.f
  rw [if_pos (by simpa using h)]
  rfl
end Go.Proofs.Ytnkakhcombmdoaa.P
