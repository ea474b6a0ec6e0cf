/-
  The plain statement of CrcCut: bytes that are cut within a frame tell the frames ahead of it, and no more.
-/
import Derived.Test.YtnkakhcombmdoaaLcrcLaw
import Derived.Test.YtnkakhcombmdoaaMOpens
import Derived.Test.YtnkakhcombmdoaaHCrcCut
namespace Go.Proofs.Ytnkakhcombmdoaa.Pure
open Go.RowKit Go.Proofs.CodecPlain Go.Proofs.YtnkakhcombmdoaaW.PrintWords Go.Proofs.YtnkakhcombmdoaaW.PrintLast Go.Proofs.Ytnkakhcombmdoaa.P Go.Proofs.Ytnkakhcombmdoaa.B Go.Proofs.Ytnkakhcombmdoaa.Opens

/-- The frames of the first i texts. -/
def FF (l : List ByteArray) (i : Nat) : ByteArray := catStr ((l.take i).map frameOf)
theorem FF_snoc (l : List ByteArray) (k : Nat) (hk : k < l.length) : FF l (k + 1) = FF l k ++ frameOf l[k] := by
  unfold FF
  rw [List.take_succ_eq_append_getElem hk, List.map_append, catStr_append]
  congr 1
  exact ba_ext (by show (frameOf l[k] ++ catStr []).data.toList = _; rw [app_list]; simp [catStr])
theorem FF_zero (l : List ByteArray) : FF l 0 = ⟨#[]⟩ := by unfold FF; simp [catStr]
theorem FF_up (l : List ByteArray) (i : Nat) : ∀ d : Nat, i + d ≤ l.length → (FF l i).size ≤ (FF l (i + d)).size
  | 0, _ => Nat.le_refl _
  | d + 1, h => by
    have := FF_up l i d (by omega)
    rw [show i + (d + 1) = (i + d) + 1 by omega, FF_snoc l (i + d) (by omega), CodecPlain.size_append]
    omega
theorem FF_le (l : List ByteArray) : ∀ k : Nat, k ≤ l.length → (∀ i (h : i < l.length), i < k → l[i].size ≤ 300) → (FF l k).size ≤ k * 309
  | 0, _, _ => by rw [FF_zero]; exact Nat.le_refl _
  | k + 1, hk, h => by
    have := FF_le l k (by omega) (fun i hi hk' => h i hi (by omega))
    have h1 := h k (by omega) (by omega)
    have h2 := frame_size (l[k]'(by omega))
    rw [FF_snoc l k (by omega), CodecPlain.size_append]
    omega
theorem FF_rest (l : List ByteArray) (m : Nat) : FF l l.length = FF l m ++ catStr ((l.drop m).map frameOf) := by
  unfold FF
  rw [← catStr_append, ← List.map_append, List.take_append_drop, List.take_length]

/-- A piece of a frame tells no frame. -/
theorem piece_no {t q q2 : ByteArray} (ht : t.size ≤ 4000) (h : frameOf t = q ++ q2) (h2 : 0 < q2.size) : (getFrame q).2.2 ≠ 0 := by
  intro h0
  have hg := (getFrame_got (s := q) (t := (getFrame q).1) (rest := (getFrame q).2.1) (by rw [← h0]))
  generalize (getFrame q).1 = t' at hg
  generalize (getFrame q).2.1 = r' at hg
  obtain ⟨ht', hq⟩ := hg
  have e1 := getFrame_put t ht ⟨#[]⟩
  have e2 := getFrame_put t' ht' (r' ++ q2)
  have e3 : frameOf t ++ (⟨#[]⟩ : ByteArray) = frameOf t' ++ (r' ++ q2) := by
    rw [h, hq]
    exact ba_ext (by simp [app_list])
  rw [e3, e2] at e1
  simp only [Prod.mk.injEq, and_true] at e1
  have h5 : (r' ++ q2).size = 0 := by rw [e1.2]; rfl
  rw [CodecPlain.size_append] at h5
  omega

theorem cut_all (l : List ByteArray) (n m : Nat) (hl : ∀ s ∈ l, s.size ≤ 300) (hm : m ≤ l.length) (hn : n ≤ (FF l l.length).size) (h1 : (FF l m).size ≤ n) (h2 : m < l.length → n < (FF l (m + 1)).size) :
    ∃ q : ByteArray, ((FF l l.length).extract 0 n).size = (FF l m).size + q.size ∧ allF ((FF l l.length).extract 0 n).size ((FF l l.length).extract 0 n) = (l.take m, q) := by
  obtain ⟨R, hR⟩ : ∃ R, R = catStr ((l.drop m).map frameOf) := ⟨_, rfl⟩
  have hF := FF_rest l m
  rw [← hR] at hF
  have hp : (FF l l.length).extract 0 n = FF l m ++ R.extract 0 (n - (FF l m).size) := by
    apply ba_ext
    rw [ext_list, app_list, ext_list, hF, app_list, List.drop_zero, List.drop_zero, Nat.sub_zero, Nat.sub_zero, List.take_append, List.take_of_length_le (by rw [len_list]; exact h1), len_list]
  have hno : (getFrame (R.extract 0 (n - (FF l m).size))).2.2 ≠ 0 := by
    by_cases hlt : m < l.length
    · have hd : l.drop m = l[m] :: l.drop (m + 1) := List.drop_eq_getElem_cons hlt
      have hn2 := h2 hlt
      rw [FF_snoc l m hlt, CodecPlain.size_append] at hn2
      have hRl : R = frameOf l[m] ++ catStr ((l.drop (m + 1)).map frameOf) := by rw [hR, hd]; rfl
      have hx : R.extract 0 (n - (FF l m).size) = (frameOf l[m]).extract 0 (n - (FF l m).size) := by
        apply ba_ext
        rw [ext_list, ext_list, hRl, app_list, List.drop_zero, List.drop_zero, Nat.sub_zero, List.take_append_of_le_length (by rw [len_list]; omega)]
      rw [hx]
      refine piece_no (t := l[m]) (q2 := (frameOf l[m]).extract (n - (FF l m).size) (frameOf l[m]).size) (by have := hl l[m] (List.getElem_mem _); omega) ?_ (by rw [ByteArray.size_extract]; omega)
      apply ba_ext
      rw [app_list, ext_list, ext_list, List.drop_zero, Nat.sub_zero, List.take_of_length_le (l := (frameOf l[m]).data.toList.drop _) (by rw [List.length_drop, len_list]; omega), List.take_append_drop]
    · have hd : l.drop m = [] := List.drop_of_length_le (by omega)
      have hRl : R = ⟨#[]⟩ := by rw [hR, hd]; rfl
      have hx : R.extract 0 (n - (FF l m).size) = ⟨#[]⟩ := by
        apply ba_ext
        rw [ext_list, hRl]; simp
      rw [hx]
      decide
  rw [hp]
  generalize R.extract 0 (n - (FF l m).size) = q at hno
  obtain ⟨m', _, a⟩ := allF_cat (l.take m) q (FF l m ++ q).size (fun t ht => by have := hl t (List.mem_of_mem_take ht); omega) (Nat.le_refl _)
  have hq : allF m' q = ([], q) := by
    cases m' with
    | zero => rfl
    | succ j => simp only [allF]; rw [if_neg hno]
  rw [hq] at a
  exact ⟨q, CodecPlain.size_append _ _, by rw [show FF l m = catStr ((l.take m).map frameOf) from rfl] at *; simpa using a⟩

theorem cut_end (l : List ByteArray) (at_ : Int) (m : Nat) (h12 : l.length ≤ 12) (hl : ∀ s ∈ l, s.size ≤ 300) (hm : m ≤ l.length) (h1 : 0 < m → ((FF l m).size : Int) ≤ at_) (h2 : m < l.length → at_ < ((FF l (m + 1)).size : Int)) :
    Ev (fun r => sextonlaw03_CrcCut.l0 r l at_ (FF l l.length) (m : Int) ((FF l m).size : Int) (l.length : Int)) true := by
  have hsz : (FF l l.length).size ≤ 12 * 309 := by
    have := FF_le l l.length (Nat.le_refl _) (fun i h _ => hl _ (List.getElem_mem _))
    exact Nat.le_trans this (Nat.mul_le_mul_right 309 h12)
  have yes : Ev (fun r => sextonlaw03_CrcCut.j1 r l at_ (FF l l.length) (m : Int) ((FF l m).size : Int) true) true := by
    refine Ev.step (f := fun k => (sextonlaw03_summed.f k).bind fun t354 => (some t354)) (fun k => by simp only [sextonlaw03_CrcCut.j1]; rw [if_pos trivial]) ?_
    obtain ⟨K, e⟩ := summed_ev
    exact ⟨K, fun k hk => by show (sextonlaw03_summed.f k).bind (fun t354 => some t354) = some true; rw [show sextonlaw03_summed.f k = some true from e k hk]; rfl⟩
  by_cases ha : at_ < 0
  · exact Ev.step (f := fun r => sextonlaw03_CrcCut.j1 r l at_ (FF l l.length) (m : Int) ((FF l m).size : Int) true) (fun r => by simp only [sextonlaw03_CrcCut.l0]; rw [if_neg (by omega), if_pos ha]) yes
  · by_cases hb : at_ > ((FF l l.length).size : Int)
    · exact Ev.step (f := fun r => sextonlaw03_CrcCut.j1 r l at_ (FF l l.length) (m : Int) ((FF l m).size : Int) true) (fun r => by simp only [sextonlaw03_CrcCut.l0]; rw [if_neg (by omega), if_neg ha, decide_eq_true hb]) yes
    · obtain ⟨n, rfl⟩ : ∃ n : Nat, at_ = n := ⟨at_.toNat, by omega⟩
      have h1' : (FF l m).size ≤ n := by
        by_cases h0 : m = 0
        · subst h0; rw [FF_zero]; exact Nat.zero_le _
        · have := h1 (by omega); omega
      obtain ⟨q, hq, ha⟩ := cut_all l n m hl hm (by omega) h1' (fun h => by have := h2 h; omega)
      obtain ⟨K1, e1⟩ := all_of ((FF l l.length).extract 0 n) (by rw [ByteArray.size_extract]; omega)
      rw [ha, hq] at e1
      obtain ⟨K2, e2⟩ := summed_ev
      obtain ⟨K3, e3⟩ := refTexts (l.take m) (l.take m) (by rw [List.length_take]; omega)
      simp only at e1 e2 e3
      refine ⟨K1 + K2 + K3 + 2, fun k hk => ?_⟩
      obtain ⟨r, rfl⟩ : ∃ r, k = r + 2 := ⟨k - 2, by omega⟩
      simp only [sextonlaw03_CrcCut.l0]
      rw [if_neg (by omega), if_neg (by omega), decide_eq_false hb]
      simp only [sextonlaw03_CrcCut.j1]
      rw [if_neg (by decide), if_pos (by omega), if_pos (by omega), Int.toNat_natCast, e1 r (by omega)]
      simp only [Option.bind_some]
      rw [e2 r (by omega)]
      simp only [Option.bind_some, if_true]
      rw [if_pos (by omega), if_pos (by omega), if_pos (by omega), Int.toNat_natCast, e3 r (by omega)]
      simp
theorem cut_l0 (l : List ByteArray) (at_ : Int) (h12 : l.length ≤ 12) (d : Nat) : ∀ k m : Nat, k + d = l.length → m ≤ k → (∀ i (h : i < l.length), i < k → l[i].size ≤ 300) →
    (0 < m → ((FF l m).size : Int) ≤ at_) → (m < k → at_ < ((FF l (m + 1)).size : Int)) →
    Ev (fun r => sextonlaw03_CrcCut.l0 r l at_ (FF l k) (m : Int) ((FF l m).size : Int) (k : Int)) true := by
  induction d with
  | zero =>
    intro k m hk hm hs h1 h2
    obtain rfl : k = l.length := by omega
    refine cut_end l at_ m h12 (fun s hx => ?_) hm h1 h2
    obtain ⟨i, hi, rfl⟩ := List.getElem_of_mem hx
    exact hs i hi hi
  | succ d ih =>
    intro k m hk hm hs h1 h2
    have hlt : k < l.length := by omega
    have hrd := rd_string l k hlt
    by_cases hb : l[k].size ≤ 300
    · have hf := frame_size l[k]
      have hsz := FF_le l k (by omega) hs
      have hs' : ∀ i (h : i < l.length), i < k + 1 → l[i].size ≤ 300 := fun i h hi => by
        by_cases e : i = k
        · subst e; exact hb
        · exact hs i h (by omega)
      have hsn := FF_snoc l k hlt
      by_cases hc : ((FF l k ++ frameOf l[k]).size : Int) ≤ at_
      · have hmk : m = k := by
          by_cases e : m = k
          · exact e
          · have h3 := h2 (by omega)
            have h4 := FF_up l (m + 1) (k - m) (by omega)
            rw [show m + 1 + (k - m) = k + 1 by omega, hsn] at h4
            omega
        subst hmk
        have := ih (m + 1) (m + 1) (by omega) (Nat.le_refl _) hs' (fun _ => by rw [hsn]; exact hc) (fun h => by omega)
        rw [hsn] at this
        refine Ev.step (f := fun r => sextonlaw03_CrcCut.l0 r l at_ (FF l m ++ frameOf l[m]) ((m + 1 : Nat) : Int) ((FF l m ++ frameOf l[m]).size : Int) ((m + 1 : Nat) : Int)) (fun r => ?_) this
        simp only [sextonlaw03_CrcCut.l0]
        rw [if_pos (by omega), if_pos (by omega), hrd, if_neg (by omega), put_f, if_pos (by omega)]
        simp only [Option.bind_some]
        rw [if_pos (by omega), if_pos hc, wrap_id (by omega) (by omega)]
        rfl
      · have := ih (k + 1) m (by omega) (by omega) hs' h1 (fun h => by
          by_cases e : m = k
          · subst e; rw [hsn]; omega
          · exact h2 (by omega))
        rw [hsn] at this
        refine Ev.step (f := fun r => sextonlaw03_CrcCut.l0 r l at_ (FF l k ++ frameOf l[k]) (m : Int) ((FF l m).size : Int) ((k + 1 : Nat) : Int)) (fun r => ?_) this
        simp only [sextonlaw03_CrcCut.l0]
        rw [if_pos (by omega), if_pos (by omega), hrd, if_neg (by omega), put_f, if_pos (by omega)]
        simp only [Option.bind_some]
        rw [if_pos (by omega), if_neg hc, wrap_id (by omega) (by omega)]
        rfl
    · refine Ev.step (f := fun _ => some true) (fun r => ?_) (Ev.now _)
      simp only [sextonlaw03_CrcCut.l0]
      rw [if_pos (by omega), if_pos (by omega), hrd, if_pos (by omega)]

theorem CrcCut (l0 : (List ByteArray)) (a1 : Int) (h0 : (OkList OkStr) l0) (h1 : OkInt .i64 a1) :
    ∃ k, sextonlaw03_CrcCut.f k l0 a1 = some true := by
  clear h0 h1
  by_cases h12 : (l0.length : Int) > 12
  · exact ⟨0, by unfold sextonlaw03_CrcCut.f; rw [if_pos h12]⟩
  · have := cut_l0 l0 a1 (by omega) l0.length 0 0 (by omega) (Nat.le_refl _) (fun i h hi => by omega) (fun h => by omega) (fun h => by omega)
    rw [FF_zero] at this
    obtain ⟨K, e⟩ := this
    simp only at e
    refine ⟨K, ?_⟩
    unfold sextonlaw03_CrcCut.f
    rw [if_neg h12]
    exact e K (Nat.le_refl _)
end Go.Proofs.Ytnkakhcombmdoaa.Pure
