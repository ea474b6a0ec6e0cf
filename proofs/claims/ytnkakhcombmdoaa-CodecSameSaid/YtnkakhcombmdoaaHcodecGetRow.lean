/-
  codec.GetRow, by hand, and the function value that it takes one text behind the other from. For every text.
-/
import Derived.OwnWalk
import Derived.LoopTactic
import Derived.Deep.QuietTactic
import Derived.BigQuiet
import Derived.RangeFuncBox
import Derived.RangeFuncNested
import Derived.Test.YtnkakhcombmdoaaMcodecRow
import Derived.Test.YtnkakhcombmdoaaHcodecGetNumber
import Derived.Test.YtnkakhcombmdoaaFcodecGetText
namespace Go.Proofs.Ytnkakhcombmdoaa.P
open Go.RowKit Go.Proofs.CodecPlain Go.Proofs.YtnkakhcombmdoaaW.PrintWords Go.Proofs.YtnkakhcombmdoaaW.PrintLast Go.Proofs.YtnkakhcombmdoaaW.PrintMore

theorem getText_f (s : ByteArray) : codec_GetText.f s = some (getText s) := by
  unfold codec_GetText.f codec_GetNumber.f getText
  simp only [Option.bind_some]
  have := getNum_bd s
  by_cases h1 : (getNum s).2.2 = true
  · rw [if_pos h1]
    by_cases h2 : (getNum s).1 > 4000
    · rw [if_pos h2, if_neg (by omega)]
    · rw [if_neg h2]
      by_cases h3 : (getNum s).1 > ((getNum s).2.1.size : Int)
      · rw [if_pos h3, if_neg (by omega)]
      · rw [if_neg h3, if_pos (by omega), if_pos (by omega), if_pos ⟨h1, by omega, by omega⟩]
  · rw [if_neg h1, if_neg (by rintro ⟨h, _⟩; exact h1 h)]

set_option maxHeartbeats 1000000 in
theorem codec_texts_calls (s : ByteArray) (w : World) :
    Calls Try.prog 48 #[.string s] w fun e w' => e = .returned (.func (.func 51) #[] #[.pointer (some ⟨w.heap.size, 0, none⟩)]) ∧ w' = w.alloc (.cells #[.string s] 9) := by
  go_enter Try.func48, Try.ntmps48
  go_wp2
  go_ret
  exact ⟨rfl, rfl⟩

theorem keep_set {w : World} {B n m : Nat} {v : Value} : KeepBut w (((w.drewN m).setCell ⟨B, 0, none⟩ v).drewN n) B none :=
  ⟨by show w.heap.size ≤ (w.heap.modify _ _).size; rw [Array.size_modify]; exact Nat.le_refl _, fun i _ h _ => Below.heap_setCell w ⟨B, 0, none⟩ v i h⟩

set_option maxHeartbeats 1000000 in
theorem codec_texts1_calls (s : ByteArray) (B : Nat) (w : World) (hb : Boxed w B 9 (.string s)) (r1 r2 : ByteArray) (r3 : Bool) (hgt : getText s = (r1, r2, r3)) :
    Calls Try.prog 51 #[.pointer (some ⟨B, 0, none⟩)] w fun e w' => e = .returned (.tuple #[.string r1, .string r2, .bool r3]) ∧
      Aside0 (Boxed w' B 9 (.string r2)) ∧ Aside0 (KeepBut w w' B none) ∧ Aside0 (∀ n₀, n₀ ≤ B → Below n₀ w w') := by
  have hc := hb.cell
  have hf := hb.frozen
  have hg := Aside0.mk (getText_f s)
  rw [hgt] at hg
  have HB := Aside0.mk hb
  clear hb hgt
  go_enter Try.func51, Try.ntmps51
  go_wp2_with (go_at_call 32; refine (codec_GetText.calls _ _ _ _ _ hg.out).mono ?_; rintro e w3 ⟨rfl, ⟨n3, rfl⟩⟩)
  have HB2 := Aside0.mk (HB.out.set (.string r2))
  have hc2 := HB2.out.cell
  repeat (go_quiet (fail); try go_wp2)
  go_ret3
  exact ⟨rfl, ⟨HB2.out⟩, ⟨keep_set⟩, ⟨fun n₀ h => pw_below_drewN ((pw_below_drewN (Below.refl _ _) _).setCell (p := ⟨B, 0, none⟩) h _) _⟩⟩

theorem infoStr : (Try.prog.info? 9).map (fun i => (i.zero, i.size, i.bytes)) = some (some (.string ⟨#[]⟩), 1, 16) := by kernel_rfl

/-- What codec.GetRow answers. -/
def codec_GetRow.f (a0 : ByteArray) : Option (List ByteArray × ByteArray × Bool) := some (getRow a0)

set_option maxHeartbeats 4000000 in
set_option maxRecDepth 100000 in
theorem codec_GetRow_in (s : ByteArray) (w : World) (h1 : (getNum s).2.2 = true) (h2 : (getNum s).1 ≤ 1000) :
    Calls Try.prog 34 #[.string s] w fun e w' => ∃ (v : Value) (r1 : List ByteArray) (r2 : ByteArray) (r3 : Bool), Aside0 (getRow s = (r1, r2, r3)) ∧ e = .returned (.tuple #[v, .string r2, .bool r3]) ∧ Kd.R Kd.string 9 w' w.heap.size (fun _ => True) v r1 ∧ Below w.heap.size w w' := by
  have hb0 := getNum_bd s
  have hrow := Aside0.mk (show getRow s = getTexts (getNum s).1.toNat (getNum s).2.1 by unfold getRow; rw [if_pos ⟨h1, h2⟩])
  have hf0 : codec_GetNumber.f s = some (getNum s) := rfl
  obtain ⟨n, rest, ok, hn⟩ : ∃ n rest ok, getNum s = (n, rest, ok) := ⟨_, _, _, rfl⟩
  rw [hn] at h1 h2 hb0 hrow hf0
  have hf := Aside0.mk hf0
  simp only at h1 h2 hb0 hrow
  subst h1
  obtain ⟨N, rfl⟩ : ∃ N : Nat, n = N := ⟨n.toNat, by omega⟩
  clear hn hf0 hb0
  rw [Int.toNat_natCast] at hrow
  go_enter Try.func34, Try.ntmps34
  go_wp2_with (go_at_call 30; refine (codec_GetNumber.calls _ _ _ _ _ hf.out).mono ?_; rintro e w3 ⟨rfl, ⟨n3, rfl⟩⟩)
  go_wp2_with (go_at_call 48; refine (codec_texts_calls _ _).mono ?_; rintro e w3 ⟨rfl, rfl⟩)
  have hbx := Aside0.mk (Boxed.new (w.drewN n3) 9 (.string rest))
  have HB := Aside0.mk ((pw_below_drewN (Below.refl w.heap.size w) n3).alloc (Nat.le_refl _) (.cells #[.string rest] 9))
  go_loopw [6, 8, 28] (fun r v i wr => ∃ (k : Nat) (L : List ByteArray) (cur c2 : ByteArray), k ≤ N ∧ i = .int .i64 k ∧ r = .string cur ∧ c2 = cur ∧ Aside0 (getRow s = withL L (getTexts (N - k) cur)) ∧ Aside0 (L.length = k) ∧ Aside0 (Boxed wr w.heap.size 9 (.string c2)) ∧ Aside0 (Kd.R Kd.string 9 wr w.heap.size (fun q => q ≠ w.heap.size) v L) ∧ Aside0 (Below w.heap.size w wr))
    (fun _ _ i _ => N - (intOf i).toNat)
  case atStart => exact ⟨0, [], rest, rest, Nat.zero_le _, rfl, rfl, rfl, ⟨by rw [hrow.out, withL_nil, Nat.sub_zero]⟩, ⟨rfl⟩, ⟨hbx.out⟩, ⟨Kd.R_nil _ _ _ _ _⟩, HB⟩
  case round =>
    clear hrow hbx HB
    obtain ⟨k, L, cur, c2, hk, rfl, rfl, rfl, HG, HL, hbx, HO, HB⟩ := hrel
    by_cases hlt : k < N
    · obtain ⟨r1, r2, r3, hgt⟩ : ∃ r1 r2 r3, getText c2 = (r1, r2, r3) := ⟨_, _, _, rfl⟩
      have HT := Aside0.mk hgt
      clear hgt
      cases r3
      · have hres := Aside0.mk (show getRow s = ([], ⟨#[]⟩, false) by
          rw [HG.out, show N - k = (N - k - 1) + 1 by omega]; exact withL_stop _ _ _ (by rw [HT.out]))
        go_wp2_with (go_at_call 51; refine (codec_texts1_calls _ _ _ hbx.out _ _ _ HT.out).mono ?_; rintro e w4 ⟨rfl, hbx4, hk4, hb4⟩)
        go_ret3
        exact ⟨_, _, _, _, hres, rfl, Kd.R_nil _ _ _ _ _, HB.out.trans (hb4.out _ (Nat.le_refl _))⟩
      · have hnx := Aside0.mk (show getRow s = withL (L ++ [r1]) (getTexts (N - (k + 1)) r2) by
          rw [HG.out, show N - k = (N - (k + 1)) + 1 by omega, withL_step _ _ _ (by rw [HT.out]), HT.out])
        go_wp2_with (first | (go_at_call 51; refine (codec_texts1_calls _ _ _ hbx.out _ _ _ HT.out).mono ?_; rintro e w4 ⟨rfl, hbx4, hk4, hb4⟩; have HO4 := Aside0.mk (Kd.R_keep HO.out hk4.out (fun k hk => hk)); have HB4 := Aside0.mk (HB.out.trans (hb4.out _ (Nat.le_refl _))); clear hk4 hb4 HO HB) | ((with_reducible refine gate_builtin (b := .append) (xs := #[.tmp 38, .tmp 40]) rfl ?_); at_builtin; refine Kd.R_append Kd.string (w0 := w) w.heap.size rfl (.tmp 38) (.tmp 40) 22 9 (.string ⟨#[]⟩) 16 rfl Try.underlying22 infoStr rfl (by decide) (by omega) _ L r1 [.string r1] (fun q => q ≠ w.heap.size) (fun _ => False) rfl rfl ?aP (fun _ hk => hk.elim) ?aF ?aO ?aB ?aS ?aL ?_; (case aP => exact rfl); (case aB => exact HB4.out); (case aF => exact (fun q hq => by have := hbx4.out.lt; omega)); (case aO => exact HO4.out); (case aS => exact HB4.out.size); (case aL => have := HL.out; omega); intro v1 w5 ho hb hg hat; have HO5 := Aside0.mk ho; have HB5 := Aside0.mk hb; have hbx5 := Aside0.mk (hbx4.out.kept hg (fun e => by have := (HO4.out).1 _ e.symm; omega)); clear ho hb hg hat))
        go_roundw
        case rel => exact ⟨k + 1, L ++ [r1], r2, r2, by omega, by go_num, rfl, rfl, hnx, ⟨by simp [HL.out]⟩, hbx5, HO5, HB5⟩
        case measure => simp [intOf]; omega
    · obtain rfl : k = N := by omega
      have hres := Aside0.mk (show getRow s = (L, c2, true) by
        rw [HG.out, Nat.sub_self]; simp [withL, getTexts])
      go_wp2
      go_ret3
      exact ⟨_, _, _, _, hres, rfl, Kd.R_mono HO.out (fun _ _ => trivial), HB.out⟩

theorem codec_GetRow.calls (a0 : ByteArray) (r1 : List ByteArray) (r2 : ByteArray) (r3 : Bool) (w : World) (h : codec_GetRow.f a0 = some (r1, r2, r3)) :
    Calls Try.prog 34 #[.string a0] w fun e w' => ∃ v0_ : Value, e = .returned (.tuple #[v0_, .string r2, .bool r3]) ∧ Kd.R Kd.string 9 w' w.heap.size (fun _ => True) v0_ r1 ∧ Below w.heap.size w w' := by
  have hg : getRow a0 = (r1, r2, r3) := by simpa [codec_GetRow.f] using h
  clear h
  by_cases hc : (getNum a0).2.2 = true ∧ (getNum a0).1 ≤ 1000
  · refine (codec_GetRow_in a0 w hc.1 hc.2).mono ?_
    rintro e w' ⟨v, s1, s2, s3, hs, rfl, hR, hB⟩
    have := hs.out.symm.trans hg
    simp only [Prod.mk.injEq] at this
    obtain ⟨rfl, rfl, rfl⟩ := this
    exact ⟨v, rfl, hR, hB⟩
  · have h2 : getRow a0 = ([], ⟨#[]⟩, false) := by unfold getRow; rw [if_neg hc]
    rw [hg] at h2
    simp only [Prod.mk.injEq] at h2
    obtain ⟨rfl, rfl, rfl⟩ := h2
    clear hg
    have hf0 : codec_GetNumber.f a0 = some (getNum a0) := rfl
    obtain ⟨n, rest, ok, hn⟩ : ∃ n rest ok, getNum a0 = (n, rest, ok) := ⟨_, _, _, rfl⟩
    rw [hn] at hc hf0
    have hf := Aside0.mk hf0
    clear hf0 hn
    cases ok
    · clear hc
      go_enter Try.func34, Try.ntmps34
      go_wp2_with (go_at_call 30; refine (codec_GetNumber.calls _ _ _ _ _ hf.out).mono ?_; rintro e w3 ⟨rfl, ⟨n3, rfl⟩⟩)
      go_ret3
      exact ⟨_, rfl, Kd.R_nil _ _ _ _ _, pw_below_drewN (Below.refl _ _) _⟩
    · have hgt : 1000 < n := by simpa using hc
      clear hc
      go_enter Try.func34, Try.ntmps34
      go_wp2_with (go_at_call 30; refine (codec_GetNumber.calls _ _ _ _ _ hf.out).mono ?_; rintro e w3 ⟨rfl, ⟨n3, rfl⟩⟩)
      go_ret3
      exact ⟨_, rfl, Kd.R_nil _ _ _ _ _, pw_below_drewN (Below.refl _ _) _⟩
end Go.Proofs.Ytnkakhcombmdoaa.P
