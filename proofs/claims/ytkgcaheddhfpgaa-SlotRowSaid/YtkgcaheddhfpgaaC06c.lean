/-
  Texts that the claims of this chapter share, joined.
-/
import Derived.Test.YtkgcaheddhfpgaaPx0
import Derived.Test.YtkgcaheddhfpgaaC06b
import Derived.OwnWalk
import Derived.LoopTactic
import Derived.Deep.QuietTactic
import Derived.BigQuiet
import Derived.RangeFuncBox
import Derived.RangeFuncNested
import Derived.Test.YtkgcaheddhfpgaaC06a
import Derived.Maps.AppendAt
import Derived.Test.YtkgcaheddhfpgaaWMore
import Derived.StillTactics
set_option linter.unusedVariables false
set_option linter.unusedSimpArgs false
-- Written by a program of this session (xprint.py) over the kit's print.py.
namespace Go.Proofs.Ytkgcaheddhfpgaa.P
open Go.RowKit Go.Proofs.YtkgcaheddhfpgaaW.PrintWords Go.Proofs.YtkgcaheddhfpgaaW.PrintLast Go.Proofs.YtkgcaheddhfpgaaW.PrintMore
attribute [local go_sem] max2_int min2_int max_two min_two max_three min_three max_four min_four   -- for this text's walks alone
set_option linter.unusedVariables false
set_option linter.unusedSimpArgs false

/-! ### slices_Contains_int_int: function 56 -/
def slices_Contains_int_int.f (k : Nat) (l0 : List Int) (a1 : Int) : Option (Bool) := (slices_Index_int_int.f k l0 a1).bind fun t284 => (some (decide (t284 ≥ 0)))
set_option maxHeartbeats 8000000 in
set_option maxRecDepth 100000 in
theorem slices_Contains_int_int.calls (k : Nat) (A0 : Option Addr) (c0 : Nat) (l0 : List Int) (a1 : Int) (r : Bool) (w : World) (hr0 : Kd.C (Kd.int .i64) w A0 l0.length l0) (hc0 : l0.length ≤ c0) (h : slices_Contains_int_int.f k l0 a1 = some r) :
    Calls Try.prog 56 #[.slice A0 l0.length c0, .int .i64 a1] w fun e w' => e = .returned (.bool r) ∧ Drawn0 w w' := by
  have HR0 := Aside0.mk hr0
  have HC0 := Aside0.mk hc0
  clear hr0 hc0
  have H : ((slices_Index_int_int.f k l0 a1).bind fun t284 => (some (decide (t284 ≥ 0)))) = some r := h
  clear h
  replace H := Option.bind_eq_some_iff.mp H
  obtain ⟨t284, A30, H⟩ := H
  replace H : (some (decide (t284 ≥ 0))) = some r := H
  have A3 := Aside0.mk A30
  clear A30
  obtain rfl := Option.some.inj H
  go_enter Try.func56, Try.ntmps56
  go_wp2_with (first | ((with_reducible refine gate_callee (f := 70) rfl ?_); refine goesL_ (some 7) rfl rfl Try.func70 (by kernel_rfl) rfl #[.slice A0 l0.length c0, .int .i64 a1] rfl (by (try simp only [List.map_toArray, List.map_cons, List.map_nil]); first | done | rfl | (simp only [List.length_drop, List.length_take]; rfl)) ?_; (with_reducible refine (slices_Index_int_int.calls k _ _ l0 a1 t284 _ ?side1 ?side2 A3.out).mono ?_); (case side1 => repeat (first | exact HR0.out | (with_reducible refine Kd.C_alloc ?_ _) | (with_reducible refine Kd.C_drewN ?_ _) | (with_reducible refine Kd.C_drew ?_))); (case side2 => exact HC0.out); rintro e w' ⟨rfl, ⟨nd, rfl⟩⟩; refine ⟨_, rfl, ?_⟩))
  go_ret
  exact ⟨by first | rfl | (simp; done) | (simp [*]; done), by repeat (first | exact Drawn0.refl _ | apply Drawn0.step)⟩

end Go.Proofs.Ytkgcaheddhfpgaa.P
/-
  codec.GetRow, by hand, and the function value that it takes one text behind the other from. For every text.
-/
namespace Go.Proofs.Ytkgcaheddhfpgaa.P
open Go.RowKit Go.Proofs.CodecPlain Go.Proofs.YtkgcaheddhfpgaaW.PrintWords Go.Proofs.YtkgcaheddhfpgaaW.PrintLast Go.Proofs.YtkgcaheddhfpgaaW.PrintMore

theorem getText_f (s : ByteArray) : codec_GetText.f s = some (getText s) := by
  unfold codec_GetText.f codec_GetNumber.f getText
  simp only [Option.bind_some]
  have := getNum_bd s
  by_cases h1 : (getNum s).2.2 = true
  · rw [if_pos h1]
    by_cases h2 : (getNum s).1 > 4000
    · rw [if_pos h2, if_neg (by omega)]
    · rw [if_neg h2]
      by_cases h3 : (getNum s).1 > ((getNum s).2.1.size : Int)
      · rw [if_pos h3, if_neg (by omega)]
      · rw [if_neg h3, if_pos (by omega), if_pos (by omega), if_pos ⟨h1, by omega, by omega⟩]
  · rw [if_neg h1, if_neg (by rintro ⟨h, _⟩; exact h1 h)]

set_option maxHeartbeats 1000000 in
theorem codec_texts_calls (s : ByteArray) (w : World) :
    Calls Try.prog 74 #[.string s] w fun e w' => e = .returned (.func (.func 76) #[] #[.pointer (some ⟨w.heap.size, 0, none⟩)]) ∧ w' = w.alloc (.cells #[.string s] 9) := by
  go_enter Try.func74, Try.ntmps74
  go_wp2
  go_ret
  exact ⟨rfl, rfl⟩

theorem keep_set {w : World} {B n m : Nat} {v : Value} : KeepBut w (((w.drewN m).setCell ⟨B, 0, none⟩ v).drewN n) B none :=
  ⟨by show w.heap.size ≤ (w.heap.modify _ _).size; rw [Array.size_modify]; exact Nat.le_refl _, fun i _ h _ => Below.heap_setCell w ⟨B, 0, none⟩ v i h⟩

set_option maxHeartbeats 1000000 in
theorem codec_texts1_calls (s : ByteArray) (B : Nat) (w : World) (hb : Boxed w B 9 (.string s)) (r1 r2 : ByteArray) (r3 : Bool) (hgt : getText s = (r1, r2, r3)) :
    Calls Try.prog 76 #[.pointer (some ⟨B, 0, none⟩)] w fun e w' => e = .returned (.tuple #[.string r1, .string r2, .bool r3]) ∧
      Aside0 (Boxed w' B 9 (.string r2)) ∧ Aside0 (KeepBut w w' B none) ∧ Aside0 (∀ n₀, n₀ ≤ B → Below n₀ w w') := by
  have hc := hb.cell
  have hf := hb.frozen
  have hg := Aside0.mk (getText_f s)
  rw [hgt] at hg
  have HB := Aside0.mk hb
  clear hb hgt
  go_enter Try.func76, Try.ntmps76
  go_wp2_with (go_at_call 69; refine (codec_GetText.calls _ _ _ _ _ hg.out).mono ?_; rintro e w3 ⟨rfl, ⟨n3, rfl⟩⟩)
  have HB2 := Aside0.mk (HB.out.set (.string r2))
  have hc2 := HB2.out.cell
  repeat (go_quiet (fail); try go_wp2)
  go_ret3
  exact ⟨rfl, ⟨HB2.out⟩, ⟨keep_set⟩, ⟨fun n₀ h => pw_below_drewN ((pw_below_drewN (Below.refl _ _) _).setCell (p := ⟨B, 0, none⟩) h _) _⟩⟩

theorem infoStr : (Try.prog.info? 9).map (fun i => (i.zero, i.size, i.bytes)) = some (some (.string ⟨#[]⟩), 1, 16) := by kernel_rfl

/-- What codec.GetRow answers. -/
def codec_GetRow.f (a0 : ByteArray) : Option (List ByteArray × ByteArray × Bool) := some (getRow a0)

set_option maxHeartbeats 4000000 in
set_option maxRecDepth 100000 in
theorem codec_GetRow_in (s : ByteArray) (w : World) (h1 : (getNum s).2.2 = true) (h2 : (getNum s).1 ≤ 1000) :
    Calls Try.prog 68 #[.string s] w fun e w' => ∃ (v : Value) (r1 : List ByteArray) (r2 : ByteArray) (r3 : Bool), Aside0 (getRow s = (r1, r2, r3)) ∧ e = .returned (.tuple #[v, .string r2, .bool r3]) ∧ Kd.R Kd.string 9 w' w.heap.size (fun _ => True) v r1 ∧ Below w.heap.size w w' := by
  have hb0 := getNum_bd s
  have hrow := Aside0.mk (show getRow s = getTexts (getNum s).1.toNat (getNum s).2.1 by unfold getRow; rw [if_pos ⟨h1, h2⟩])
  have hf0 : codec_GetNumber.f s = some (getNum s) := rfl
  obtain ⟨n, rest, ok, hn⟩ : ∃ n rest ok, getNum s = (n, rest, ok) := ⟨_, _, _, rfl⟩
  rw [hn] at h1 h2 hb0 hrow hf0
  have hf := Aside0.mk hf0
  simp only at h1 h2 hb0 hrow
  subst h1
  obtain ⟨N, rfl⟩ : ∃ N : Nat, n = N := ⟨n.toNat, by omega⟩
  clear hn hf0 hb0
  rw [Int.toNat_natCast] at hrow
  go_enter Try.func68, Try.ntmps68
  go_wp2_with (go_at_call 61; refine (codec_GetNumber.calls _ _ _ _ _ hf.out).mono ?_; rintro e w3 ⟨rfl, ⟨n3, rfl⟩⟩)
  go_wp2_with (go_at_call 74; refine (codec_texts_calls _ _).mono ?_; rintro e w3 ⟨rfl, rfl⟩)
  have hbx := Aside0.mk (Boxed.new (w.drewN n3) 9 (.string rest))
  have HB := Aside0.mk ((pw_below_drewN (Below.refl w.heap.size w) n3).alloc (Nat.le_refl _) (.cells #[.string rest] 9))
  go_loopw [6, 8, 28] (fun r v i wr => ∃ (k : Nat) (L : List ByteArray) (cur c2 : ByteArray), k ≤ N ∧ i = .int .i64 k ∧ r = .string cur ∧ c2 = cur ∧ Aside0 (getRow s = withL L (getTexts (N - k) cur)) ∧ Aside0 (L.length = k) ∧ Aside0 (Boxed wr w.heap.size 9 (.string c2)) ∧ Aside0 (Kd.R Kd.string 9 wr w.heap.size (fun q => q ≠ w.heap.size) v L) ∧ Aside0 (Below w.heap.size w wr))
    (fun _ _ i _ => N - (intOf i).toNat)
  case atStart => exact ⟨0, [], rest, rest, Nat.zero_le _, rfl, rfl, rfl, ⟨by rw [hrow.out, withL_nil, Nat.sub_zero]⟩, ⟨rfl⟩, ⟨hbx.out⟩, ⟨Kd.R_nil _ _ _ _ _⟩, HB⟩
  case round =>
    clear hrow hbx HB
    obtain ⟨k, L, cur, c2, hk, rfl, rfl, rfl, HG, HL, hbx, HO, HB⟩ := hrel
    by_cases hlt : k < N
    · obtain ⟨r1, r2, r3, hgt⟩ : ∃ r1 r2 r3, getText c2 = (r1, r2, r3) := ⟨_, _, _, rfl⟩
      have HT := Aside0.mk hgt
      clear hgt
      cases r3
      · have hres := Aside0.mk (show getRow s = ([], ⟨#[]⟩, false) by
          rw [HG.out, show N - k = (N - k - 1) + 1 by omega]; exact withL_stop _ _ _ (by rw [HT.out]))
        go_wp2_with (go_at_call 76; refine (codec_texts1_calls _ _ _ hbx.out _ _ _ HT.out).mono ?_; rintro e w4 ⟨rfl, hbx4, hk4, hb4⟩)
        go_ret3
        exact ⟨_, _, _, _, hres, rfl, Kd.R_nil _ _ _ _ _, HB.out.trans (hb4.out _ (Nat.le_refl _))⟩
      · have hnx := Aside0.mk (show getRow s = withL (L ++ [r1]) (getTexts (N - (k + 1)) r2) by
          rw [HG.out, show N - k = (N - (k + 1)) + 1 by omega, withL_step _ _ _ (by rw [HT.out]), HT.out])
        go_wp2_with (first | (go_at_call 76; refine (codec_texts1_calls _ _ _ hbx.out _ _ _ HT.out).mono ?_; rintro e w4 ⟨rfl, hbx4, hk4, hb4⟩; have HO4 := Aside0.mk (Kd.R_keep HO.out hk4.out (fun k hk => hk)); have HB4 := Aside0.mk (HB.out.trans (hb4.out _ (Nat.le_refl _))); clear hk4 hb4 HO HB) | ((with_reducible refine gate_builtin (b := .append) (xs := #[.tmp 38, .tmp 40]) rfl ?_); at_builtin; refine Kd.R_append Kd.string (w0 := w) w.heap.size rfl (.tmp 38) (.tmp 40) 22 9 (.string ⟨#[]⟩) 16 rfl Try.underlying22 infoStr rfl (by decide) (by omega) _ L r1 [.string r1] (fun q => q ≠ w.heap.size) (fun _ => False) rfl rfl ?aP (fun _ hk => hk.elim) ?aF ?aO ?aB ?aS ?aL ?_; (case aP => exact rfl); (case aB => exact HB4.out); (case aF => exact (fun q hq => by have := hbx4.out.lt; omega)); (case aO => exact HO4.out); (case aS => exact HB4.out.size); (case aL => have := HL.out; omega); intro v1 w5 ho hb hg hat; have HO5 := Aside0.mk ho; have HB5 := Aside0.mk hb; have hbx5 := Aside0.mk (hbx4.out.kept hg (fun e => by have := (HO4.out).1 _ e.symm; omega)); clear ho hb hg hat))
        go_roundw
        case rel => exact ⟨k + 1, L ++ [r1], r2, r2, by omega, by go_num, rfl, rfl, hnx, ⟨by simp [HL.out]⟩, hbx5, HO5, HB5⟩
        case measure => simp [intOf]; omega
    · obtain rfl : k = N := by omega
      have hres := Aside0.mk (show getRow s = (L, c2, true) by
        rw [HG.out, Nat.sub_self]; simp [withL, getTexts])
      go_wp2
      go_ret3
      exact ⟨_, _, _, _, hres, rfl, Kd.R_mono HO.out (fun _ _ => trivial), HB.out⟩

theorem codec_GetRow.calls (a0 : ByteArray) (r1 : List ByteArray) (r2 : ByteArray) (r3 : Bool) (w : World) (h : codec_GetRow.f a0 = some (r1, r2, r3)) :
    Calls Try.prog 68 #[.string a0] w fun e w' => ∃ v0_ : Value, e = .returned (.tuple #[v0_, .string r2, .bool r3]) ∧ Kd.R Kd.string 9 w' w.heap.size (fun _ => True) v0_ r1 ∧ Below w.heap.size w w' := by
  have hg : getRow a0 = (r1, r2, r3) := by simpa [codec_GetRow.f] using h
  clear h
  by_cases hc : (getNum a0).2.2 = true ∧ (getNum a0).1 ≤ 1000
  · refine (codec_GetRow_in a0 w hc.1 hc.2).mono ?_
    rintro e w' ⟨v, s1, s2, s3, hs, rfl, hR, hB⟩
    have := hs.out.symm.trans hg
    simp only [Prod.mk.injEq] at this
    obtain ⟨rfl, rfl, rfl⟩ := this
    exact ⟨v, rfl, hR, hB⟩
  · have h2 : getRow a0 = ([], ⟨#[]⟩, false) := by unfold getRow; rw [if_neg hc]
    rw [hg] at h2
    simp only [Prod.mk.injEq] at h2
    obtain ⟨rfl, rfl, rfl⟩ := h2
    clear hg
    have hf0 : codec_GetNumber.f a0 = some (getNum a0) := rfl
    obtain ⟨n, rest, ok, hn⟩ : ∃ n rest ok, getNum a0 = (n, rest, ok) := ⟨_, _, _, rfl⟩
    rw [hn] at hc hf0
    have hf := Aside0.mk hf0
    clear hf0 hn
    cases ok
    · clear hc
      go_enter Try.func68, Try.ntmps68
      go_wp2_with (go_at_call 61; refine (codec_GetNumber.calls _ _ _ _ _ hf.out).mono ?_; rintro e w3 ⟨rfl, ⟨n3, rfl⟩⟩)
      go_ret3
      exact ⟨_, rfl, Kd.R_nil _ _ _ _ _, pw_below_drewN (Below.refl _ _) _⟩
    · have hgt : 1000 < n := by simpa using hc
      clear hc
      go_enter Try.func68, Try.ntmps68
      go_wp2_with (go_at_call 61; refine (codec_GetNumber.calls _ _ _ _ _ hf.out).mono ?_; rintro e w3 ⟨rfl, ⟨n3, rfl⟩⟩)
      go_ret3
      exact ⟨_, rfl, Kd.R_nil _ _ _ _ _, pw_below_drewN (Below.refl _ _) _⟩
end Go.Proofs.Ytkgcaheddhfpgaa.P
-- Written by a program of this session (xprint.py) over the kit's print.py.
namespace Go.Proofs.Ytkgcaheddhfpgaa.P
open Go.RowKit Go.Proofs.YtkgcaheddhfpgaaW.PrintWords Go.Proofs.YtkgcaheddhfpgaaW.PrintLast Go.Proofs.YtkgcaheddhfpgaaW.PrintMore
attribute [local go_sem] max2_int min2_int max_two min_two max_three min_three max_four min_four   -- for this text's walks alone
set_option linter.unusedVariables false
set_option linter.unusedSimpArgs false

/-! ### slot_blocks: function 54 -/
def slot_blocks.l0 : Nat → Int → ByteArray → Bool → List Int → List ByteArray → Int → Int → Option (List Int × Bool)
  | 0, _, _, _, _, _, _, _ => none
  | k + 1, x1, x7, x8, x9, x23, x24, x25 => if x25 < x24 then (if 0 ≤ x25 then (if x25 < (x23.length : Int) then ((codec_GetNumber.f (rdOf ByteArray.empty x23 x25)).bind fun bt291 => (if x8 = true then (if bt291.2.2 = true then (if bt291.2.1.toList = ([] : List UInt8) then (if bt291.1 ≥ 2 then (if bt291.1 < x1 then ((slices_Contains_int_int.f k x9 bt291.1).bind fun t294 => (if x9.length < 17592186044416 then (slot_blocks.l0 k x1 x7 (!t294) (x9 ++ [bt291.1]) x23 x24 (wrap64 (x25 + 1))) else (none))) else (if x9.length < 17592186044416 then (slot_blocks.l0 k x1 x7 false (x9 ++ [bt291.1]) x23 x24 (wrap64 (x25 + 1))) else (none))) else (if x9.length < 17592186044416 then (slot_blocks.l0 k x1 x7 false (x9 ++ [bt291.1]) x23 x24 (wrap64 (x25 + 1))) else (none))) else (if x9.length < 17592186044416 then (slot_blocks.l0 k x1 x7 false (x9 ++ [bt291.1]) x23 x24 (wrap64 (x25 + 1))) else (none))) else (if x9.length < 17592186044416 then (slot_blocks.l0 k x1 x7 false (x9 ++ [bt291.1]) x23 x24 (wrap64 (x25 + 1))) else (none))) else (if x9.length < 17592186044416 then (slot_blocks.l0 k x1 x7 false (x9 ++ [bt291.1]) x23 x24 (wrap64 (x25 + 1))) else (none)))) else (none)) else (none)) else (if x8 = true then (some (x9, (x7.toList == ([] : List UInt8)))) else (some (x9, false)))
def slot_blocks.f (k : Nat) (a0 : ByteArray) (a1 : Int) : Option (List Int × Bool) := if a0.toList = ([] : List UInt8) then (some (([] : List Int), true)) else ((codec_GetRow.f a0).bind fun bt285 => (slot_blocks.l0 k a1 bt285.2.1 bt285.2.2 ([] : List Int) bt285.1 (bt285.1.length : Int) 0))
set_option maxHeartbeats 8000000 in
set_option maxRecDepth 100000 in
theorem slot_blocks.calls (k : Nat) (a0 : ByteArray) (a1 : Int) (r1 : List Int) (r2 : Bool) (w : World) (h : slot_blocks.f k a0 a1 = some (r1, r2)) :
    Calls Try.prog 54 #[.string a0, .int .i64 a1] w fun e w' => ∃ v0_ : Value, e = .returned (.tuple #[v0_, .bool r2]) ∧ Kd.R (Kd.int .i64) 3 w' w.heap.size (fun _ => True) v0_ r1 ∧ Below w.heap.size w w' := by
  have HB := Aside0.mk (Below.refl w.heap.size w)
  have H : (if a0.toList = ([] : List UInt8) then (some (([] : List Int), true)) else ((codec_GetRow.f a0).bind fun bt285 => (slot_blocks.l0 k a1 bt285.2.1 bt285.2.2 ([] : List Int) bt285.1 (bt285.1.length : Int) 0))) = some (r1, r2) := h
  clear h
  by_cases c3 : a0.toList = ([] : List UInt8)
  · rw [if_pos c3] at H
    have c3b0 : (a0.toList == ([] : List UInt8)) = true := beq_iff_eq.mpr c3
    have c3b1 : (a0.toList != ([] : List UInt8)) = false := bne_eq_false_iff_eq.mpr c3
    clear c3
    simp only [Option.some.injEq, Prod.mk.injEq] at H
    obtain ⟨rfl, rfl⟩ := H
    go_enter Try.func54, Try.ntmps54
    go_wp2
    go_ret2
    exact ⟨_, by first | rfl | (simp [errW_none, errW_some] <;> rfl) | (simp [*, errW_none, errW_some] <;> rfl), by first | exact Kd.R_nil _ _ _ _ _ | exact Kd.N_nil _ _ _ _ _ | exact Kd.V_nil _ _ _ _ _ | exact Kd.Q_nil _ _ _ _ _ | exact Kd.S_nil _ _ _ _ _, by repeat (first | (with_reducible first | exact HB.out | apply below_alloc | apply pw_below_drewN | apply below_drew1) | exact HB.out)⟩
  · rw [if_neg c3] at H
    have c3b0 : (a0.toList == ([] : List UInt8)) = false := beq_eq_false_iff_ne.mpr c3
    have c3b1 : (a0.toList != ([] : List UInt8)) = true := bne_iff_ne.mpr c3
    replace H := Option.bind_eq_some_iff.mp H
    obtain ⟨⟨t285, t286, t287⟩, A40, H⟩ := H
    replace H : (slot_blocks.l0 k a1 t286 t287 ([] : List Int) t285 (t285.length : Int) 0) = some (r1, r2) := H
    have A4 := Aside0.mk A40
    clear A40
    have H' := Aside0.mk H
    clear H
    go_enter Try.func54, Try.ntmps54
    go_wp2_with (first | ((with_reducible refine gate_callee (f := 68) rfl ?_); refine goesL_ (some 19) rfl rfl Try.func68 (by kernel_rfl) rfl #[.string a0] rfl (by (try simp only [List.map_toArray, List.map_cons, List.map_nil]); first | done | rfl | (simp only [List.length_drop, List.length_take]; rfl)) ?_; (with_reducible refine (codec_GetRow.calls a0 t285 t286 t287 _ A4.out).mono ?_); rintro e w5 ⟨v288, rfl, ho0, hb⟩; refine ⟨_, rfl, ?_⟩; have n0_ := Aside0.mk (Kd.R_lower ho0 (below_size (by repeat (first | (with_reducible first | exact HB.out | apply below_alloc | apply pw_below_drewN | apply below_drew1) | exact HB.out)))); have n1_ := Aside0.mk (below_step (by repeat (first | (with_reducible first | exact HB.out | apply below_alloc | apply pw_below_drewN | apply below_drew1) | exact HB.out)) hb); clear HB; have HO289 := n0_; have HB := n1_; clear n0_ n1_; (try clear hb); (try clear hb2); (try clear hk); (try clear hi); (try clear ho0); obtain ⟨Ao6, co6, eo6⟩ := Kd.R_slice HO289.out; subst eo6))
    go_loopg [8, 9, 25] k (fun kq v8 v9 v25 w' => ∃ (x8_1 : Bool) (x9_1 : List Int) (x25_1 : Int), v8 = .bool x8_1 ∧ v25 = .int .i64 x25_1 ∧ Aside0 (slot_blocks.l0 kq a1 t286 x8_1 x9_1 t285 (t285.length : Int) x25_1 = some (r1, r2)) ∧ Aside0 (kq ≤ k) ∧ Aside0 (Kd.R (Kd.int .i64) 3 w' w.heap.size (fun _ => True) v9 x9_1) ∧ Aside0 (Kd.R Kd.string 9 w' w.heap.size (fun _ => True) (.slice Ao6 t285.length co6) t285) ∧ Aside0 (Below w.heap.size w w'))
    case atStart => exact ⟨(t287), (([] : List Int)), (0), (by first | rfl | (simp; done) | (simp [*]; done)), (by first | rfl | (simp; done) | (simp [*]; done)), H', ⟨Nat.le_refl _⟩, ⟨by first | exact Kd.R_nil _ _ _ _ _ | exact Kd.N_nil _ _ _ _ _ | exact Kd.V_nil _ _ _ _ _ | exact Kd.Q_nil _ _ _ _ _ | exact Kd.S_nil _ _ _ _ _⟩, ⟨by (with_reducible repeat (first | apply Kd.R_alloc | apply Kd.R_drewN | apply Kd.R_drew)); exact HO289.out⟩, ⟨by repeat (first | (with_reducible first | exact HB.out | apply below_alloc | apply pw_below_drewN | apply below_drew1) | exact HB.out)⟩⟩
    case round =>
      clear H'
      try clear p2
      try clear c3
      try clear c3b0
      try clear c3b1
      try clear c5
      try clear c6
      obtain ⟨x8_1, x9_1, x25_1, rfl, rfl, HA, HK1, HO_9, HO_23, HB⟩ := hrel
      cases gk with
      | zero => exact absurd HA.out (by simp [slot_blocks.l0])
      | succ k1 =>
        have H := HA.out
        clear HA
        simp only [slot_blocks.l0] at H
        by_cases c7 : x25_1 < (t285.length : Int)
        · rw [if_pos c7] at H
          have c7b0 : decide (x25_1 < (t285.length : Int)) = true := decide_eq_true c7
          clear c7
          by_cases c8 : 0 ≤ x25_1
          · rw [if_pos c8] at H
            have c8b0 : decide (0 ≤ x25_1) = true := decide_eq_true c8
            clear c8
            by_cases c9 : x25_1 < (t285.length : Int)
            · rw [if_pos c9] at H
              have c9b0 : decide (x25_1 < (t285.length : Int)) = true := decide_eq_true c9
              clear c9
              replace H := Option.bind_eq_some_iff.mp H
              obtain ⟨⟨t291, t292, t293⟩, A100, H⟩ := H
              replace H : (if x8_1 = true then (if t293 = true then (if t292.toList = ([] : List UInt8) then (if t291 ≥ 2 then (if t291 < a1 then ((slices_Contains_int_int.f k1 x9_1 t291).bind fun t294 => (if x9_1.length < 17592186044416 then (slot_blocks.l0 k1 a1 t286 (!t294) (x9_1 ++ [t291]) t285 (t285.length : Int) (wrap64 (x25_1 + 1))) else (none))) else (if x9_1.length < 17592186044416 then (slot_blocks.l0 k1 a1 t286 false (x9_1 ++ [t291]) t285 (t285.length : Int) (wrap64 (x25_1 + 1))) else (none))) else (if x9_1.length < 17592186044416 then (slot_blocks.l0 k1 a1 t286 false (x9_1 ++ [t291]) t285 (t285.length : Int) (wrap64 (x25_1 + 1))) else (none))) else (if x9_1.length < 17592186044416 then (slot_blocks.l0 k1 a1 t286 false (x9_1 ++ [t291]) t285 (t285.length : Int) (wrap64 (x25_1 + 1))) else (none))) else (if x9_1.length < 17592186044416 then (slot_blocks.l0 k1 a1 t286 false (x9_1 ++ [t291]) t285 (t285.length : Int) (wrap64 (x25_1 + 1))) else (none))) else (if x9_1.length < 17592186044416 then (slot_blocks.l0 k1 a1 t286 false (x9_1 ++ [t291]) t285 (t285.length : Int) (wrap64 (x25_1 + 1))) else (none))) = some (r1, r2) := H
              have A10 := Aside0.mk A100
              clear A100
              by_cases c11 : x8_1 = true
              · subst c11
                have H1 : (if t293 = true then (if t292.toList = ([] : List UInt8) then (if t291 ≥ 2 then (if t291 < a1 then ((slices_Contains_int_int.f k1 x9_1 t291).bind fun t294 => (if x9_1.length < 17592186044416 then (slot_blocks.l0 k1 a1 t286 (!t294) (x9_1 ++ [t291]) t285 (t285.length : Int) (wrap64 (x25_1 + 1))) else (none))) else (if x9_1.length < 17592186044416 then (slot_blocks.l0 k1 a1 t286 false (x9_1 ++ [t291]) t285 (t285.length : Int) (wrap64 (x25_1 + 1))) else (none))) else (if x9_1.length < 17592186044416 then (slot_blocks.l0 k1 a1 t286 false (x9_1 ++ [t291]) t285 (t285.length : Int) (wrap64 (x25_1 + 1))) else (none))) else (if x9_1.length < 17592186044416 then (slot_blocks.l0 k1 a1 t286 false (x9_1 ++ [t291]) t285 (t285.length : Int) (wrap64 (x25_1 + 1))) else (none))) else (if x9_1.length < 17592186044416 then (slot_blocks.l0 k1 a1 t286 false (x9_1 ++ [t291]) t285 (t285.length : Int) (wrap64 (x25_1 + 1))) else (none))) = some (r1, r2) := by rw [if_pos rfl] at H; exact H
                clear H
                have H := H1
                clear H1
                by_cases c12 : t293 = true
                · subst c12
                  have H1 : (if t292.toList = ([] : List UInt8) then (if t291 ≥ 2 then (if t291 < a1 then ((slices_Contains_int_int.f k1 x9_1 t291).bind fun t294 => (if x9_1.length < 17592186044416 then (slot_blocks.l0 k1 a1 t286 (!t294) (x9_1 ++ [t291]) t285 (t285.length : Int) (wrap64 (x25_1 + 1))) else (none))) else (if x9_1.length < 17592186044416 then (slot_blocks.l0 k1 a1 t286 false (x9_1 ++ [t291]) t285 (t285.length : Int) (wrap64 (x25_1 + 1))) else (none))) else (if x9_1.length < 17592186044416 then (slot_blocks.l0 k1 a1 t286 false (x9_1 ++ [t291]) t285 (t285.length : Int) (wrap64 (x25_1 + 1))) else (none))) else (if x9_1.length < 17592186044416 then (slot_blocks.l0 k1 a1 t286 false (x9_1 ++ [t291]) t285 (t285.length : Int) (wrap64 (x25_1 + 1))) else (none))) = some (r1, r2) := by rw [if_pos rfl] at H; exact H
                  clear H
                  have H := H1
                  clear H1
                  by_cases c13 : t292.toList = ([] : List UInt8)
                  · rw [if_pos c13] at H
                    have c13b0 : (t292.toList == ([] : List UInt8)) = true := beq_iff_eq.mpr c13
                    have c13b1 : (t292.toList != ([] : List UInt8)) = false := bne_eq_false_iff_eq.mpr c13
                    clear c13
                    by_cases c14 : t291 ≥ 2
                    · rw [if_pos c14] at H
                      have c14b0 : decide (2 ≤ t291) = true := decide_eq_true c14
                      clear c14
                      by_cases c15 : t291 < a1
                      · rw [if_pos c15] at H
                        have c15b0 : decide (t291 < a1) = true := decide_eq_true c15
                        clear c15
                        replace H := Option.bind_eq_some_iff.mp H
                        obtain ⟨t294, A160, H⟩ := H
                        replace H : (if x9_1.length < 17592186044416 then (slot_blocks.l0 k1 a1 t286 (!t294) (x9_1 ++ [t291]) t285 (t285.length : Int) (wrap64 (x25_1 + 1))) else (none)) = some (r1, r2) := H
                        have A16 := Aside0.mk A160
                        clear A160
                        by_cases c17 : x9_1.length < 17592186044416
                        · rw [if_pos c17] at H
                          have LMc17 := Aside0.mk c17
                          clear c17
                          obtain ⟨y295, hy295⟩ : ∃ y_ : List Int, y_ = (x9_1 ++ [t291]) := ⟨_, rfl⟩
                          replace H : (slot_blocks.l0 k1 a1 t286 (!t294) y295 t285 (t285.length : Int) (wrap64 (x25_1 + 1))) = some (r1, r2) := by first | (rw [hy295]; with_reducible exact H) | (have H2_ := (Option.bind_some _ _).symm.trans H; rw [hy295]; with_reducible exact H2_) | (have H2_ := (Option.bind_some _ _).symm.trans H; with_reducible exact H2_) | with_reducible exact H | (rw [hy295]; exact H) | exact H
                          have Ny295 := Aside0.mk hy295
                          clear hy295
                          have H' := Aside0.mk H
                          clear H
                          have p290 : 0 ≤ (x25_1 : Int) := of_decide_eq_true (by first | (with_reducible assumption) | assumption)
                          have q290 : x25_1 < (t285.length : Int) := of_decide_eq_true (by first | (with_reducible assumption) | assumption)
                          obtain ⟨ad290, e290, hx290_0⟩ := Kd.at_string (Kd.R_reads' HO_23.out).2.2 x25_1 p290 q290
                          cases e290
                          replace p290 := eq_true p290
                          replace q290 := eq_true q290
                          go_wp2_with (first | ((with_reducible refine gate_callee (f := 61) rfl ?_); refine goesL_ (some 31) rfl rfl Try.func61 (by kernel_rfl) rfl #[.string (rdOf ByteArray.empty t285 x25_1)] rfl (by (try simp only [List.map_toArray, List.map_cons, List.map_nil]); first | done | rfl | (simp only [List.length_drop, List.length_take]; rfl)) ?_; (with_reducible refine (codec_GetNumber.calls (rdOf ByteArray.empty t285 x25_1) t291 t292 true _ A10.out).mono ?_); rintro e w' ⟨rfl, ⟨nd, rfl⟩⟩; refine ⟨_, rfl, ?_⟩; obtain ⟨Ao18, co18, eo18⟩ := Kd.R_slice HO_9.out; subst eo18) | (go_at_call 56; (with_reducible refine (slices_Contains_int_int.calls k1 _ _ x9_1 t291 t294 _ ?side1 ?side2 A16.out).mono ?_); (case side1 => repeat (first | exact (Kd.R_reads' HO_9.out).2.2 | (with_reducible refine Kd.C_alloc ?_ _) | (with_reducible refine Kd.C_drewN ?_ _) | (with_reducible refine Kd.C_drew ?_))); (case side2 => exact (Kd.R_reads' HO_9.out).2.1); rintro e w' ⟨rfl, ⟨nd, rfl⟩⟩) | ((with_reducible refine gate_builtin (b := .append) (xs := #[.tmp 58, .tmp 60]) rfl ?_); at_builtin; refine Kd.R_append (Kd.int .i64) (w0 := w) w.heap.size rfl (.tmp 58) (.tmp 60) 39 3 (.int .i64 0) 8 rfl Try.underlying39 info3 rfl (by decide) (by omega) (.slice Ao18 x9_1.length co18) x9_1 t291 [.int .i64 t291] (fun _ => True) (fun _ => False) rfl rfl ?aP (fun _ hk => hk.elim) ?aF ?aO ?aB ?aS ?aL ?_; (case aP => exact rfl); (case aB => exact (by repeat (first | (with_reducible first | exact HB.out | apply below_alloc | apply pw_below_drewN | apply below_drew1) | exact HB.out))); (case aF => exact (fun _ _ => trivial)); (case aO => exact (by (with_reducible repeat (first | apply Kd.R_alloc | apply Kd.R_drewN | apply Kd.R_drew)); exact HO_9.out)); (case aS => exact (below_size (by repeat (first | (with_reducible first | exact HB.out | apply below_alloc | apply pw_below_drewN | apply below_drew1) | exact HB.out)))); (case aL => have := LMc17.out; omega); intro v296 w19 ho hb hg hat; rw [← Ny295.out] at ho; have n0_ := Aside0.mk (Kd.R_over' (by (with_reducible repeat (first | apply Kd.R_alloc | apply Kd.R_drewN | apply Kd.R_drew)); exact HO_23.out) (Kd.R_typed (by (with_reducible repeat (first | apply Kd.R_alloc | apply Kd.R_drewN | apply Kd.R_drew)); exact HO_9.out)) (by decide) hg); have n1_ := Aside0.mk (hb); have n2_ := Aside0.mk (ho); clear HO_23; clear HB; clear HO_9; have HO_23 := n0_; have HB := n1_; have HO297 := n2_; clear n0_ n1_ n2_; clear ho hb hg hat))
                          go_roundg k1
                          case measure => have := HK1.out; omega
                          case rel => exact ⟨(!t294), (y295), (wrap64 (x25_1 + 1)), (by first | rfl | (simp; done) | (simp [*]; done)), (by first | rfl | (simp; done) | (simp [*]; done)), H', ⟨by have := HK1.out; omega⟩, ⟨by (with_reducible repeat (first | apply Kd.R_alloc | apply Kd.R_drewN | apply Kd.R_drew)); exact HO297.out⟩, ⟨by (with_reducible repeat (first | apply Kd.R_alloc | apply Kd.R_drewN | apply Kd.R_drew)); exact HO_23.out⟩, ⟨by repeat (first | (with_reducible first | exact HB.out | apply below_alloc | apply pw_below_drewN | apply below_drew1) | exact HB.out)⟩⟩
                        · rw [if_neg c17] at H
                          exact absurd H (by simp)
                      · rw [if_neg c15] at H
                        have c15b0 : decide (t291 < a1) = false := decide_eq_false c15
                        clear c15
                        by_cases c20 : x9_1.length < 17592186044416
                        · rw [if_pos c20] at H
                          have LMc20 := Aside0.mk c20
                          clear c20
                          obtain ⟨y298, hy298⟩ : ∃ y_ : List Int, y_ = (x9_1 ++ [t291]) := ⟨_, rfl⟩
                          replace H : (slot_blocks.l0 k1 a1 t286 false y298 t285 (t285.length : Int) (wrap64 (x25_1 + 1))) = some (r1, r2) := by first | (rw [hy298]; with_reducible exact H) | (have H2_ := (Option.bind_some _ _).symm.trans H; rw [hy298]; with_reducible exact H2_) | (have H2_ := (Option.bind_some _ _).symm.trans H; with_reducible exact H2_) | with_reducible exact H | (rw [hy298]; exact H) | exact H
                          have Ny298 := Aside0.mk hy298
                          clear hy298
                          have H' := Aside0.mk H
                          clear H
                          have p290 : 0 ≤ (x25_1 : Int) := of_decide_eq_true (by first | (with_reducible assumption) | assumption)
                          have q290 : x25_1 < (t285.length : Int) := of_decide_eq_true (by first | (with_reducible assumption) | assumption)
                          obtain ⟨ad290, e290, hx290_0⟩ := Kd.at_string (Kd.R_reads' HO_23.out).2.2 x25_1 p290 q290
                          cases e290
                          replace p290 := eq_true p290
                          replace q290 := eq_true q290
                          go_wp2_with (first | ((with_reducible refine gate_callee (f := 61) rfl ?_); refine goesL_ (some 31) rfl rfl Try.func61 (by kernel_rfl) rfl #[.string (rdOf ByteArray.empty t285 x25_1)] rfl (by (try simp only [List.map_toArray, List.map_cons, List.map_nil]); first | done | rfl | (simp only [List.length_drop, List.length_take]; rfl)) ?_; (with_reducible refine (codec_GetNumber.calls (rdOf ByteArray.empty t285 x25_1) t291 t292 true _ A10.out).mono ?_); rintro e w' ⟨rfl, ⟨nd, rfl⟩⟩; refine ⟨_, rfl, ?_⟩) | ((with_reducible refine gate_builtin (b := .append) (xs := #[.tmp 58, .tmp 60]) rfl ?_); at_builtin; refine Kd.R_append (Kd.int .i64) (w0 := w) w.heap.size rfl (.tmp 58) (.tmp 60) 39 3 (.int .i64 0) 8 rfl Try.underlying39 info3 rfl (by decide) (by omega) u9 x9_1 t291 [.int .i64 t291] (fun _ => True) (fun _ => False) rfl rfl ?aP (fun _ hk => hk.elim) ?aF ?aO ?aB ?aS ?aL ?_; (case aP => exact rfl); (case aB => exact (by repeat (first | (with_reducible first | exact HB.out | apply below_alloc | apply pw_below_drewN | apply below_drew1) | exact HB.out))); (case aF => exact (fun _ _ => trivial)); (case aO => exact (by (with_reducible repeat (first | apply Kd.R_alloc | apply Kd.R_drewN | apply Kd.R_drew)); exact HO_9.out)); (case aS => exact (below_size (by repeat (first | (with_reducible first | exact HB.out | apply below_alloc | apply pw_below_drewN | apply below_drew1) | exact HB.out)))); (case aL => have := LMc20.out; omega); intro v299 w21 ho hb hg hat; rw [← Ny298.out] at ho; have n0_ := Aside0.mk (Kd.R_over' (by (with_reducible repeat (first | apply Kd.R_alloc | apply Kd.R_drewN | apply Kd.R_drew)); exact HO_23.out) (Kd.R_typed (by (with_reducible repeat (first | apply Kd.R_alloc | apply Kd.R_drewN | apply Kd.R_drew)); exact HO_9.out)) (by decide) hg); have n1_ := Aside0.mk (hb); have n2_ := Aside0.mk (ho); clear HO_23; clear HB; clear HO_9; have HO_23 := n0_; have HB := n1_; have HO300 := n2_; clear n0_ n1_ n2_; clear ho hb hg hat))
                          go_roundg k1
                          case measure => have := HK1.out; omega
                          case rel => exact ⟨(false), (y298), (wrap64 (x25_1 + 1)), (by first | rfl | (simp; done) | (simp [*]; done)), (by first | rfl | (simp; done) | (simp [*]; done)), H', ⟨by have := HK1.out; omega⟩, ⟨by (with_reducible repeat (first | apply Kd.R_alloc | apply Kd.R_drewN | apply Kd.R_drew)); exact HO300.out⟩, ⟨by (with_reducible repeat (first | apply Kd.R_alloc | apply Kd.R_drewN | apply Kd.R_drew)); exact HO_23.out⟩, ⟨by repeat (first | (with_reducible first | exact HB.out | apply below_alloc | apply pw_below_drewN | apply below_drew1) | exact HB.out)⟩⟩
                        · rw [if_neg c20] at H
                          exact absurd H (by simp)
                    · rw [if_neg c14] at H
                      have c14b0 : decide (2 ≤ t291) = false := decide_eq_false c14
                      clear c14
                      by_cases c22 : x9_1.length < 17592186044416
                      · rw [if_pos c22] at H
                        have LMc22 := Aside0.mk c22
                        clear c22
                        obtain ⟨y301, hy301⟩ : ∃ y_ : List Int, y_ = (x9_1 ++ [t291]) := ⟨_, rfl⟩
                        replace H : (slot_blocks.l0 k1 a1 t286 false y301 t285 (t285.length : Int) (wrap64 (x25_1 + 1))) = some (r1, r2) := by first | (rw [hy301]; with_reducible exact H) | (have H2_ := (Option.bind_some _ _).symm.trans H; rw [hy301]; with_reducible exact H2_) | (have H2_ := (Option.bind_some _ _).symm.trans H; with_reducible exact H2_) | with_reducible exact H | (rw [hy301]; exact H) | exact H
                        have Ny301 := Aside0.mk hy301
                        clear hy301
                        have H' := Aside0.mk H
                        clear H
                        have p290 : 0 ≤ (x25_1 : Int) := of_decide_eq_true (by first | (with_reducible assumption) | assumption)
                        have q290 : x25_1 < (t285.length : Int) := of_decide_eq_true (by first | (with_reducible assumption) | assumption)
                        obtain ⟨ad290, e290, hx290_0⟩ := Kd.at_string (Kd.R_reads' HO_23.out).2.2 x25_1 p290 q290
                        cases e290
                        replace p290 := eq_true p290
                        replace q290 := eq_true q290
                        go_wp2_with (first | ((with_reducible refine gate_callee (f := 61) rfl ?_); refine goesL_ (some 31) rfl rfl Try.func61 (by kernel_rfl) rfl #[.string (rdOf ByteArray.empty t285 x25_1)] rfl (by (try simp only [List.map_toArray, List.map_cons, List.map_nil]); first | done | rfl | (simp only [List.length_drop, List.length_take]; rfl)) ?_; (with_reducible refine (codec_GetNumber.calls (rdOf ByteArray.empty t285 x25_1) t291 t292 true _ A10.out).mono ?_); rintro e w' ⟨rfl, ⟨nd, rfl⟩⟩; refine ⟨_, rfl, ?_⟩) | ((with_reducible refine gate_builtin (b := .append) (xs := #[.tmp 58, .tmp 60]) rfl ?_); at_builtin; refine Kd.R_append (Kd.int .i64) (w0 := w) w.heap.size rfl (.tmp 58) (.tmp 60) 39 3 (.int .i64 0) 8 rfl Try.underlying39 info3 rfl (by decide) (by omega) u9 x9_1 t291 [.int .i64 t291] (fun _ => True) (fun _ => False) rfl rfl ?aP (fun _ hk => hk.elim) ?aF ?aO ?aB ?aS ?aL ?_; (case aP => exact rfl); (case aB => exact (by repeat (first | (with_reducible first | exact HB.out | apply below_alloc | apply pw_below_drewN | apply below_drew1) | exact HB.out))); (case aF => exact (fun _ _ => trivial)); (case aO => exact (by (with_reducible repeat (first | apply Kd.R_alloc | apply Kd.R_drewN | apply Kd.R_drew)); exact HO_9.out)); (case aS => exact (below_size (by repeat (first | (with_reducible first | exact HB.out | apply below_alloc | apply pw_below_drewN | apply below_drew1) | exact HB.out)))); (case aL => have := LMc22.out; omega); intro v302 w23 ho hb hg hat; rw [← Ny301.out] at ho; have n0_ := Aside0.mk (Kd.R_over' (by (with_reducible repeat (first | apply Kd.R_alloc | apply Kd.R_drewN | apply Kd.R_drew)); exact HO_23.out) (Kd.R_typed (by (with_reducible repeat (first | apply Kd.R_alloc | apply Kd.R_drewN | apply Kd.R_drew)); exact HO_9.out)) (by decide) hg); have n1_ := Aside0.mk (hb); have n2_ := Aside0.mk (ho); clear HO_23; clear HB; clear HO_9; have HO_23 := n0_; have HB := n1_; have HO303 := n2_; clear n0_ n1_ n2_; clear ho hb hg hat))
                        go_roundg k1
                        case measure => have := HK1.out; omega
                        case rel => exact ⟨(false), (y301), (wrap64 (x25_1 + 1)), (by first | rfl | (simp; done) | (simp [*]; done)), (by first | rfl | (simp; done) | (simp [*]; done)), H', ⟨by have := HK1.out; omega⟩, ⟨by (with_reducible repeat (first | apply Kd.R_alloc | apply Kd.R_drewN | apply Kd.R_drew)); exact HO303.out⟩, ⟨by (with_reducible repeat (first | apply Kd.R_alloc | apply Kd.R_drewN | apply Kd.R_drew)); exact HO_23.out⟩, ⟨by repeat (first | (with_reducible first | exact HB.out | apply below_alloc | apply pw_below_drewN | apply below_drew1) | exact HB.out)⟩⟩
                      · rw [if_neg c22] at H
                        exact absurd H (by simp)
                  · rw [if_neg c13] at H
                    have c13b0 : (t292.toList == ([] : List UInt8)) = false := beq_eq_false_iff_ne.mpr c13
                    have c13b1 : (t292.toList != ([] : List UInt8)) = true := bne_iff_ne.mpr c13
                    by_cases c24 : x9_1.length < 17592186044416
                    · rw [if_pos c24] at H
                      have LMc24 := Aside0.mk c24
                      clear c24
                      obtain ⟨y304, hy304⟩ : ∃ y_ : List Int, y_ = (x9_1 ++ [t291]) := ⟨_, rfl⟩
                      replace H : (slot_blocks.l0 k1 a1 t286 false y304 t285 (t285.length : Int) (wrap64 (x25_1 + 1))) = some (r1, r2) := by first | (rw [hy304]; with_reducible exact H) | (have H2_ := (Option.bind_some _ _).symm.trans H; rw [hy304]; with_reducible exact H2_) | (have H2_ := (Option.bind_some _ _).symm.trans H; with_reducible exact H2_) | with_reducible exact H | (rw [hy304]; exact H) | exact H
                      have Ny304 := Aside0.mk hy304
                      clear hy304
                      have H' := Aside0.mk H
                      clear H
                      have p290 : 0 ≤ (x25_1 : Int) := of_decide_eq_true (by first | (with_reducible assumption) | assumption)
                      have q290 : x25_1 < (t285.length : Int) := of_decide_eq_true (by first | (with_reducible assumption) | assumption)
                      obtain ⟨ad290, e290, hx290_0⟩ := Kd.at_string (Kd.R_reads' HO_23.out).2.2 x25_1 p290 q290
                      cases e290
                      replace p290 := eq_true p290
                      replace q290 := eq_true q290
                      go_wp2_with (first | ((with_reducible refine gate_callee (f := 61) rfl ?_); refine goesL_ (some 31) rfl rfl Try.func61 (by kernel_rfl) rfl #[.string (rdOf ByteArray.empty t285 x25_1)] rfl (by (try simp only [List.map_toArray, List.map_cons, List.map_nil]); first | done | rfl | (simp only [List.length_drop, List.length_take]; rfl)) ?_; (with_reducible refine (codec_GetNumber.calls (rdOf ByteArray.empty t285 x25_1) t291 t292 true _ A10.out).mono ?_); rintro e w' ⟨rfl, ⟨nd, rfl⟩⟩; refine ⟨_, rfl, ?_⟩) | ((with_reducible refine gate_builtin (b := .append) (xs := #[.tmp 58, .tmp 60]) rfl ?_); at_builtin; refine Kd.R_append (Kd.int .i64) (w0 := w) w.heap.size rfl (.tmp 58) (.tmp 60) 39 3 (.int .i64 0) 8 rfl Try.underlying39 info3 rfl (by decide) (by omega) u9 x9_1 t291 [.int .i64 t291] (fun _ => True) (fun _ => False) rfl rfl ?aP (fun _ hk => hk.elim) ?aF ?aO ?aB ?aS ?aL ?_; (case aP => exact rfl); (case aB => exact (by repeat (first | (with_reducible first | exact HB.out | apply below_alloc | apply pw_below_drewN | apply below_drew1) | exact HB.out))); (case aF => exact (fun _ _ => trivial)); (case aO => exact (by (with_reducible repeat (first | apply Kd.R_alloc | apply Kd.R_drewN | apply Kd.R_drew)); exact HO_9.out)); (case aS => exact (below_size (by repeat (first | (with_reducible first | exact HB.out | apply below_alloc | apply pw_below_drewN | apply below_drew1) | exact HB.out)))); (case aL => have := LMc24.out; omega); intro v305 w25 ho hb hg hat; rw [← Ny304.out] at ho; have n0_ := Aside0.mk (Kd.R_over' (by (with_reducible repeat (first | apply Kd.R_alloc | apply Kd.R_drewN | apply Kd.R_drew)); exact HO_23.out) (Kd.R_typed (by (with_reducible repeat (first | apply Kd.R_alloc | apply Kd.R_drewN | apply Kd.R_drew)); exact HO_9.out)) (by decide) hg); have n1_ := Aside0.mk (hb); have n2_ := Aside0.mk (ho); clear HO_23; clear HB; clear HO_9; have HO_23 := n0_; have HB := n1_; have HO306 := n2_; clear n0_ n1_ n2_; clear ho hb hg hat))
                      go_roundg k1
                      case measure => have := HK1.out; omega
                      case rel => exact ⟨(false), (y304), (wrap64 (x25_1 + 1)), (by first | rfl | (simp; done) | (simp [*]; done)), (by first | rfl | (simp; done) | (simp [*]; done)), H', ⟨by have := HK1.out; omega⟩, ⟨by (with_reducible repeat (first | apply Kd.R_alloc | apply Kd.R_drewN | apply Kd.R_drew)); exact HO306.out⟩, ⟨by (with_reducible repeat (first | apply Kd.R_alloc | apply Kd.R_drewN | apply Kd.R_drew)); exact HO_23.out⟩, ⟨by repeat (first | (with_reducible first | exact HB.out | apply below_alloc | apply pw_below_drewN | apply below_drew1) | exact HB.out)⟩⟩
                    · rw [if_neg c24] at H
                      exact absurd H (by simp)
                · replace c12 := Bool.eq_false_iff.mpr c12
                  subst c12
                  have H1 : (if x9_1.length < 17592186044416 then (slot_blocks.l0 k1 a1 t286 false (x9_1 ++ [t291]) t285 (t285.length : Int) (wrap64 (x25_1 + 1))) else (none)) = some (r1, r2) := by rw [if_neg (show ¬ (false = true) by decide)] at H; exact H
                  clear H
                  have H := H1
                  clear H1
                  by_cases c26 : x9_1.length < 17592186044416
                  · rw [if_pos c26] at H
                    have LMc26 := Aside0.mk c26
                    clear c26
                    obtain ⟨y307, hy307⟩ : ∃ y_ : List Int, y_ = (x9_1 ++ [t291]) := ⟨_, rfl⟩
                    replace H : (slot_blocks.l0 k1 a1 t286 false y307 t285 (t285.length : Int) (wrap64 (x25_1 + 1))) = some (r1, r2) := by first | (rw [hy307]; with_reducible exact H) | (have H2_ := (Option.bind_some _ _).symm.trans H; rw [hy307]; with_reducible exact H2_) | (have H2_ := (Option.bind_some _ _).symm.trans H; with_reducible exact H2_) | with_reducible exact H | (rw [hy307]; exact H) | exact H
                    have Ny307 := Aside0.mk hy307
                    clear hy307
                    have H' := Aside0.mk H
                    clear H
                    have p290 : 0 ≤ (x25_1 : Int) := of_decide_eq_true (by first | (with_reducible assumption) | assumption)
                    have q290 : x25_1 < (t285.length : Int) := of_decide_eq_true (by first | (with_reducible assumption) | assumption)
                    obtain ⟨ad290, e290, hx290_0⟩ := Kd.at_string (Kd.R_reads' HO_23.out).2.2 x25_1 p290 q290
                    cases e290
                    replace p290 := eq_true p290
                    replace q290 := eq_true q290
                    go_wp2_with (first | ((with_reducible refine gate_callee (f := 61) rfl ?_); refine goesL_ (some 31) rfl rfl Try.func61 (by kernel_rfl) rfl #[.string (rdOf ByteArray.empty t285 x25_1)] rfl (by (try simp only [List.map_toArray, List.map_cons, List.map_nil]); first | done | rfl | (simp only [List.length_drop, List.length_take]; rfl)) ?_; (with_reducible refine (codec_GetNumber.calls (rdOf ByteArray.empty t285 x25_1) t291 t292 false _ A10.out).mono ?_); rintro e w' ⟨rfl, ⟨nd, rfl⟩⟩; refine ⟨_, rfl, ?_⟩) | ((with_reducible refine gate_builtin (b := .append) (xs := #[.tmp 58, .tmp 60]) rfl ?_); at_builtin; refine Kd.R_append (Kd.int .i64) (w0 := w) w.heap.size rfl (.tmp 58) (.tmp 60) 39 3 (.int .i64 0) 8 rfl Try.underlying39 info3 rfl (by decide) (by omega) u9 x9_1 t291 [.int .i64 t291] (fun _ => True) (fun _ => False) rfl rfl ?aP (fun _ hk => hk.elim) ?aF ?aO ?aB ?aS ?aL ?_; (case aP => exact rfl); (case aB => exact (by repeat (first | (with_reducible first | exact HB.out | apply below_alloc | apply pw_below_drewN | apply below_drew1) | exact HB.out))); (case aF => exact (fun _ _ => trivial)); (case aO => exact (by (with_reducible repeat (first | apply Kd.R_alloc | apply Kd.R_drewN | apply Kd.R_drew)); exact HO_9.out)); (case aS => exact (below_size (by repeat (first | (with_reducible first | exact HB.out | apply below_alloc | apply pw_below_drewN | apply below_drew1) | exact HB.out)))); (case aL => have := LMc26.out; omega); intro v308 w27 ho hb hg hat; rw [← Ny307.out] at ho; have n0_ := Aside0.mk (Kd.R_over' (by (with_reducible repeat (first | apply Kd.R_alloc | apply Kd.R_drewN | apply Kd.R_drew)); exact HO_23.out) (Kd.R_typed (by (with_reducible repeat (first | apply Kd.R_alloc | apply Kd.R_drewN | apply Kd.R_drew)); exact HO_9.out)) (by decide) hg); have n1_ := Aside0.mk (hb); have n2_ := Aside0.mk (ho); clear HO_23; clear HB; clear HO_9; have HO_23 := n0_; have HB := n1_; have HO309 := n2_; clear n0_ n1_ n2_; clear ho hb hg hat))
                    go_roundg k1
                    case measure => have := HK1.out; omega
                    case rel => exact ⟨(false), (y307), (wrap64 (x25_1 + 1)), (by first | rfl | (simp; done) | (simp [*]; done)), (by first | rfl | (simp; done) | (simp [*]; done)), H', ⟨by have := HK1.out; omega⟩, ⟨by (with_reducible repeat (first | apply Kd.R_alloc | apply Kd.R_drewN | apply Kd.R_drew)); exact HO309.out⟩, ⟨by (with_reducible repeat (first | apply Kd.R_alloc | apply Kd.R_drewN | apply Kd.R_drew)); exact HO_23.out⟩, ⟨by repeat (first | (with_reducible first | exact HB.out | apply below_alloc | apply pw_below_drewN | apply below_drew1) | exact HB.out)⟩⟩
                  · rw [if_neg c26] at H
                    exact absurd H (by simp)
              · replace c11 := Bool.eq_false_iff.mpr c11
                subst c11
                have H1 : (if x9_1.length < 17592186044416 then (slot_blocks.l0 k1 a1 t286 false (x9_1 ++ [t291]) t285 (t285.length : Int) (wrap64 (x25_1 + 1))) else (none)) = some (r1, r2) := by rw [if_neg (show ¬ (false = true) by decide)] at H; exact H
                clear H
                have H := H1
                clear H1
                by_cases c28 : x9_1.length < 17592186044416
                · rw [if_pos c28] at H
                  have LMc28 := Aside0.mk c28
                  clear c28
                  obtain ⟨y310, hy310⟩ : ∃ y_ : List Int, y_ = (x9_1 ++ [t291]) := ⟨_, rfl⟩
                  replace H : (slot_blocks.l0 k1 a1 t286 false y310 t285 (t285.length : Int) (wrap64 (x25_1 + 1))) = some (r1, r2) := by first | (rw [hy310]; with_reducible exact H) | (have H2_ := (Option.bind_some _ _).symm.trans H; rw [hy310]; with_reducible exact H2_) | (have H2_ := (Option.bind_some _ _).symm.trans H; with_reducible exact H2_) | with_reducible exact H | (rw [hy310]; exact H) | exact H
                  have Ny310 := Aside0.mk hy310
                  clear hy310
                  have H' := Aside0.mk H
                  clear H
                  have p290 : 0 ≤ (x25_1 : Int) := of_decide_eq_true (by first | (with_reducible assumption) | assumption)
                  have q290 : x25_1 < (t285.length : Int) := of_decide_eq_true (by first | (with_reducible assumption) | assumption)
                  obtain ⟨ad290, e290, hx290_0⟩ := Kd.at_string (Kd.R_reads' HO_23.out).2.2 x25_1 p290 q290
                  cases e290
                  replace p290 := eq_true p290
                  replace q290 := eq_true q290
                  go_wp2_with (first | ((with_reducible refine gate_callee (f := 61) rfl ?_); refine goesL_ (some 31) rfl rfl Try.func61 (by kernel_rfl) rfl #[.string (rdOf ByteArray.empty t285 x25_1)] rfl (by (try simp only [List.map_toArray, List.map_cons, List.map_nil]); first | done | rfl | (simp only [List.length_drop, List.length_take]; rfl)) ?_; (with_reducible refine (codec_GetNumber.calls (rdOf ByteArray.empty t285 x25_1) t291 t292 t293 _ A10.out).mono ?_); rintro e w' ⟨rfl, ⟨nd, rfl⟩⟩; refine ⟨_, rfl, ?_⟩) | ((with_reducible refine gate_builtin (b := .append) (xs := #[.tmp 58, .tmp 60]) rfl ?_); at_builtin; refine Kd.R_append (Kd.int .i64) (w0 := w) w.heap.size rfl (.tmp 58) (.tmp 60) 39 3 (.int .i64 0) 8 rfl Try.underlying39 info3 rfl (by decide) (by omega) u9 x9_1 t291 [.int .i64 t291] (fun _ => True) (fun _ => False) rfl rfl ?aP (fun _ hk => hk.elim) ?aF ?aO ?aB ?aS ?aL ?_; (case aP => exact rfl); (case aB => exact (by repeat (first | (with_reducible first | exact HB.out | apply below_alloc | apply pw_below_drewN | apply below_drew1) | exact HB.out))); (case aF => exact (fun _ _ => trivial)); (case aO => exact (by (with_reducible repeat (first | apply Kd.R_alloc | apply Kd.R_drewN | apply Kd.R_drew)); exact HO_9.out)); (case aS => exact (below_size (by repeat (first | (with_reducible first | exact HB.out | apply below_alloc | apply pw_below_drewN | apply below_drew1) | exact HB.out)))); (case aL => have := LMc28.out; omega); intro v311 w29 ho hb hg hat; rw [← Ny310.out] at ho; have n0_ := Aside0.mk (Kd.R_over' (by (with_reducible repeat (first | apply Kd.R_alloc | apply Kd.R_drewN | apply Kd.R_drew)); exact HO_23.out) (Kd.R_typed (by (with_reducible repeat (first | apply Kd.R_alloc | apply Kd.R_drewN | apply Kd.R_drew)); exact HO_9.out)) (by decide) hg); have n1_ := Aside0.mk (hb); have n2_ := Aside0.mk (ho); clear HO_23; clear HB; clear HO_9; have HO_23 := n0_; have HB := n1_; have HO312 := n2_; clear n0_ n1_ n2_; clear ho hb hg hat))
                  go_roundg k1
                  case measure => have := HK1.out; omega
                  case rel => exact ⟨(false), (y310), (wrap64 (x25_1 + 1)), (by first | rfl | (simp; done) | (simp [*]; done)), (by first | rfl | (simp; done) | (simp [*]; done)), H', ⟨by have := HK1.out; omega⟩, ⟨by (with_reducible repeat (first | apply Kd.R_alloc | apply Kd.R_drewN | apply Kd.R_drew)); exact HO312.out⟩, ⟨by (with_reducible repeat (first | apply Kd.R_alloc | apply Kd.R_drewN | apply Kd.R_drew)); exact HO_23.out⟩, ⟨by repeat (first | (with_reducible first | exact HB.out | apply below_alloc | apply pw_below_drewN | apply below_drew1) | exact HB.out)⟩⟩
                · rw [if_neg c28] at H
                  exact absurd H (by simp)
            · rw [if_neg c9] at H
              exact absurd H (by simp)
          · rw [if_neg c8] at H
            exact absurd H (by simp)
        · rw [if_neg c7] at H
          have c7b0 : decide (x25_1 < (t285.length : Int)) = false := decide_eq_false c7
          clear c7
          by_cases c30 : x8_1 = true
          · subst c30
            have H1 : (some (x9_1, (t286.toList == ([] : List UInt8)))) = some (r1, r2) := by rw [if_pos rfl] at H; exact H
            clear H
            have H := H1
            clear H1
            simp only [Option.some.injEq, Prod.mk.injEq] at H
            obtain ⟨rfl, rfl⟩ := H
            go_wp2
            go_ret2
            exact ⟨_, by first | rfl | (simp [errW_none, errW_some] <;> rfl) | (simp [*, errW_none, errW_some] <;> rfl), by (with_reducible repeat (first | apply Kd.R_alloc | apply Kd.R_drewN | apply Kd.R_drew)); exact HO_9.out, by repeat (first | (with_reducible first | exact HB.out | apply below_alloc | apply pw_below_drewN | apply below_drew1) | exact HB.out)⟩
          · replace c30 := Bool.eq_false_iff.mpr c30
            subst c30
            have H1 : (some (x9_1, false)) = some (r1, r2) := by rw [if_neg (show ¬ (false = true) by decide)] at H; exact H
            clear H
            have H := H1
            clear H1
            simp only [Option.some.injEq, Prod.mk.injEq] at H
            obtain ⟨rfl, rfl⟩ := H
            go_wp2
            go_ret2
            exact ⟨_, by first | rfl | (simp [errW_none, errW_some] <;> rfl) | (simp [*, errW_none, errW_some] <;> rfl), by (with_reducible repeat (first | apply Kd.R_alloc | apply Kd.R_drewN | apply Kd.R_drew)); exact HO_9.out, by repeat (first | (with_reducible first | exact HB.out | apply below_alloc | apply pw_below_drewN | apply below_drew1) | exact HB.out)⟩

end Go.Proofs.Ytkgcaheddhfpgaa.P
/-
  codec.Row, by hand: a row's text: how many, and each one's text; an error for a row too long, or one that holds a text too long. For every row.
-/
namespace Go.Proofs.Ytkgcaheddhfpgaa.P
open Go.RowKit Go.Shelf Go.Proofs Go.Proofs.CodecPlain Go.Proofs.YtkgcaheddhfpgaaW.PrintWords Go.Proofs.YtkgcaheddhfpgaaW.PrintLast

theorem bld_below {T e : TypeId} {B b : Nat} {p : Value} {bs : List Value} {w w' : World} (h : Lib.BuilderAt T e B b p bs w) (hb : Below w.heap.size w w') : Lib.BuilderAt T e B b p bs w' := by
  obtain ⟨hB, v, hbk, hown, hne⟩ := h
  have hlt : b < w.heap.size := (Array.getElem?_eq_some_iff.1 hbk).1
  exact ⟨hB, v, (hb.block b hlt).trans hbk, own_move hown (fun k hk => hb.block k (own_lt hown k hk)), hne⟩
theorem isBld_below {T e : TypeId} {B b : Nat} {bs : List Value} {w w' : World} (h : Lib.IsBuilder T e B b bs w) (hb : Below w.heap.size w w') : Lib.IsBuilder T e B b bs w' :=
  h.elim (fun h => .inl (bld_below h hb)) (fun h => .inr (bld_below h hb))
theorem cells_snoc (L : List UInt8) (s : ByteArray) : Lib.byteCells L ++ Lib.strCells s = Lib.byteCells (L ++ s.data.toList) := by simp [Lib.byteCells, Lib.strCells]

/-- 'b.WriteString(s)'. -/
theorem bld_write (B b : Nat) (L : List UInt8) (s : ByteArray) (w : World) (h : Lib.IsBuilder 121 5 B b (Lib.byteCells L) w) (hlen : L.length + s.size ≤ 140737488355328) (hBw : B ≤ w.heap.size) :
    Calls Try.prog 71 #[.pointer (some ⟨b, 0, none⟩), .string s] w fun e w' => e = .returned (.tuple #[.int .i64 s.size, .nilIface]) ∧ Aside0 (Lib.IsBuilder 121 5 B b (Lib.byteCells (L ++ s.data.toList)) w') ∧ Aside0 (Below B w w') := by
  refine (Builder_WriteString B b (Lib.byteCells L) s w h (by simpa [Lib.byteCells] using hlen) hBw).mono ?_
  rintro e w' ⟨rfl, h1, h2⟩
  exact ⟨rfl, ⟨.inr (by rw [← cells_snoc]; exact h1)⟩, ⟨h2⟩⟩

theorem rd_string (l : List ByteArray) (k : Nat) (h : k < l.length) : rdOf ByteArray.empty l (k : Int) = l[k] := by
  simp [rdOf, List.getD_eq_getElem?_getD, h]

/-- What codec.Row answers. -/
def codec_Row.f (l : List ByteArray) : Option (ByteArray × Int) :=
  if 1000 < l.length then some (⟨#[]⟩, 2) else if l.all (fun s => decide (s.size ≤ 4000)) = true then some (rowStr l, 0) else some (⟨#[]⟩, 2)

theorem text_ok (s : ByteArray) (h : s.size ≤ 4000) : codec_Text.f s = some (textStr s, 0) := by
  have hn := numStr_size (s.size : Int)
  unfold codec_Text.f codec_Number.f
  rw [if_neg (by omega), if_pos (by omega)]
  simp only [Option.bind_some]
  rw [if_pos (by omega)]
  rfl
theorem text_no (s : ByteArray) (h : 4000 < s.size) : codec_Text.f s = some (⟨#[]⟩, 2) := by
  unfold codec_Text.f
  rw [if_pos (by omega)]

set_option maxHeartbeats 4000000 in
set_option maxRecDepth 100000 in
theorem codec_Row_in (A : Option Addr) (c : Nat) (l : List ByteArray) (w : World) (hr : Kd.C Kd.string w A l.length l) (hl : l.length ≤ 1000) :
    Calls Try.prog 58 #[.slice A l.length c] w fun e w' => ∃ r1 r2, Aside0 (codec_Row.f l = some (r1, r2)) ∧ e = .returned (.tuple #[.string r1, .int .i64 r2]) ∧ Below w.heap.size w w' := by
  have HR := Aside0.mk hr
  clear hr
  have e0 : decide (1000 < l.length) = false := decide_eq_false (by omega)
  have hnum : As (codec_Number.f (l.length : Int) = some (numStr l.length, 0)) := ⟨by unfold codec_Number.f; rw [if_pos (by omega)]⟩
  have hns := numStr_size (l.length : Int)
  go_enter Try.func58, Try.ntmps58
  go_wp2_with (go_at_call 30; refine (codec_Number.calls _ _ _ _ hnum.out).mono ?_; rintro e w1 ⟨rfl, hb1⟩; have HB1 := Aside0.mk hb1; clear hb1; have HB := Aside0.mk (((Below.refl w.heap.size w).alloc (Nat.le_refl _) _).trans (HB1.out.mono (by simp))); have hbld := isBld_below (Lib.fresh_isBuilder 121 5 w) HB1.out; have hbl := Aside0.mk hbld; clear hbld HB1)
  go_wp2_with (go_at_call 71; refine (bld_write w.heap.size w.heap.size [] (numStr l.length) _ hbl.out (by simp; omega) HB.out.size).mono ?_; rintro e w2 ⟨rfl, hbw, hB2⟩)
  have HB3 := Aside0.mk (HB.out.trans hB2.out)
  clear HB hB2 hbl
  go_loopw [8, 9, 10, 24] (fun _ _ _ i wr => ∃ k : Nat, k ≤ l.length ∧ i = .int .i64 k ∧ Aside0 (∀ s ∈ l.take k, s.size ≤ 4000) ∧ Aside0 (Lib.IsBuilder 121 5 w.heap.size w.heap.size (Lib.byteCells (((numStr l.length) ++ catStr ((l.take k).map textStr)).data.toList)) wr) ∧ Aside0 (Below w.heap.size w wr))
    (fun _ _ _ i _ => l.length - (intOf i).toNat)
  case atStart => exact ⟨0, Nat.zero_le _, rfl, ⟨by simp⟩, ⟨by have := hbw.out; simpa [catStr] using this⟩, HB3⟩
  case round =>
    clear HB3 hbw e0 hnum
    obtain ⟨k, hk, rfl, hall, hbl, HB⟩ := hrel
    by_cases hlt : k < l.length
    · obtain ⟨ad, rfl, hx⟩ := Kd.at_string (Kd.C_below HR.out HB.out) (k : Int) (by omega) (by omega)
      rw [rd_string l k hlt, Int.toNat_natCast] at hx
      by_cases hsz : l[k].size ≤ 4000
      · have ht := Aside0.mk (text_ok l[k] hsz)
        have hts := textStr_size l[k]
        have hcs := catStr_size (l.take k) hall.out
        rw [List.length_take] at hcs
        have hnx := Aside0.mk (row_next l k hlt)
        have hal2 : Aside0 (∀ s ∈ l.take (k + 1), s.size ≤ 4000) := ⟨by
          rw [List.take_succ_eq_append_getElem hlt]; intro s hs
          rcases List.mem_append.1 hs with h | h
          · exact hall.out s h
          · rw [List.mem_singleton.1 h]; exact hsz⟩
        have hlen : Aside0 (((numStr (l.length : Int)) ++ catStr ((l.take k).map textStr)).data.toList.length + (textStr l[k]).size ≤ 140737488355328) := ⟨by
          rw [Array.length_toList]
          show ((numStr (l.length : Int)) ++ catStr ((l.take k).map textStr)).size + _ ≤ _
          rw [CodecPlain.size_append]
          omega⟩
        clear hsz hts hcs
        go_wp2_with (first | (go_at_call 49; refine (codec_Text.calls _ _ _ _ ht.out).mono ?_; rintro e w3 ⟨rfl, hb3⟩; have hbl3 := Aside0.mk (isBld_below hbl.out hb3); have HB3 := Aside0.mk (HB.out.trans (hb3.mono HB.out.size)); clear hb3) | (go_at_call 71; refine (bld_write w.heap.size w.heap.size _ (textStr l[k]) _ hbl3.out hlen.out HB3.out.size).mono ?_; rintro e w4 ⟨rfl, hbw4, hB4⟩))
        go_roundw
        case rel => exact ⟨k + 1, by omega, by go_num, hal2, ⟨by have := hbw4.out; rw [hnx.out] at this; exact this⟩, ⟨HB3.out.trans hB4.out⟩⟩
        case measure => simp [intOf]; omega
      · have ht := Aside0.mk (text_no l[k] (by omega))
        have hres : Aside0 (codec_Row.f l = some (⟨#[]⟩, 2)) := ⟨by
          unfold codec_Row.f
          rw [if_neg (by omega), if_neg]
          intro h
          have := List.all_eq_true.1 h l[k] (List.getElem_mem hlt)
          exact hsz (of_decide_eq_true this)⟩
        clear hsz
        go_wp2_with (go_at_call 49; refine (codec_Text.calls _ _ _ _ ht.out).mono ?_; rintro e w3 ⟨rfl, hb3⟩; have HB3 := Aside0.mk (HB.out.trans (hb3.mono HB.out.size)); clear hb3)
        go_ret2
        exact ⟨_, _, hres, rfl, HB3.out⟩
    · obtain rfl : k = l.length := by omega
      have hres : Aside0 (codec_Row.f l = some (rowStr l, 0)) := ⟨by
          unfold codec_Row.f
          rw [if_neg (by omega), if_pos]
          rw [List.all_eq_true]
          intro s hs
          have h := hall.out s (by rw [List.take_length]; exact hs)
          exact decide_eq_true h⟩
      have hbe := hbl.out
      rw [List.take_length] at hbe
      have hbe2 := Aside0.mk hbe
      clear hbe hbl
      go_wp2_with (go_at_call 72; refine (Try.Builder_String_any w.heap.size w.heap.size _ _ hbe2.out HB.out.size).mono ?_; rintro e w5 ⟨rfl, hb5⟩; have HB5 := Aside0.mk (HB.out.trans hb5); clear hb5)
      go_ret2
      exact ⟨_, _, hres, rfl, HB5.out⟩

set_option maxHeartbeats 1000000 in
theorem codec_Row.calls (A0 : Option Addr) (c0 : Nat) (l0 : List ByteArray) (r1 : ByteArray) (r2 : Int) (w : World) (hr0 : Kd.C Kd.string w A0 l0.length l0) (hc0 : l0.length ≤ c0) (h : codec_Row.f l0 = some (r1, r2)) :
    Calls Try.prog 58 #[.slice A0 l0.length c0] w fun e w' => e = .returned (.tuple #[.string r1, .int .i64 r2]) ∧ Below w.heap.size w w' := by
  by_cases hl : l0.length ≤ 1000
  · refine (codec_Row_in A0 c0 l0 w hr0 hl).mono ?_
    rintro e w' ⟨s1, s2, hs, rfl, hb⟩
    have := h.symm.trans hs.out
    simp only [Option.some.injEq, Prod.mk.injEq] at this
    obtain ⟨rfl, rfl⟩ := this
    exact ⟨rfl, hb⟩
  · have hgt : 1000 < l0.length := by omega
    have hm := hr0.2.1
    unfold codec_Row.f at h
    rw [if_pos (by omega)] at h
    simp only [Option.some.injEq, Prod.mk.injEq] at h
    obtain ⟨rfl, rfl⟩ := h
    clear hl hr0
    go_enter Try.func58, Try.ntmps58
    go_wp2
    go_ret2
    exact ⟨rfl, Below.refl _ _⟩
end Go.Proofs.Ytkgcaheddhfpgaa.P
-- Written by a program of this session (xprint.py) over the kit's print.py.
namespace Go.Proofs.Ytkgcaheddhfpgaa.P
open Go.RowKit Go.Proofs.YtkgcaheddhfpgaaW.PrintWords Go.Proofs.YtkgcaheddhfpgaaW.PrintLast Go.Proofs.YtkgcaheddhfpgaaW.PrintMore
attribute [local go_sem] max2_int min2_int max_two min_two max_three min_three max_four min_four   -- for this text's walks alone
set_option linter.unusedVariables false
set_option linter.unusedSimpArgs false

/-! ### slot_named: function 44 -/
def slot_named.l0 : Nat → List ByteArray → List Int → Int → Int → Option (ByteArray × Int)
  | 0, _, _, _, _ => none
  | k + 1, x4, x11, x12, x13 => if x13 < x12 then (if 0 ≤ x13 then (if x13 < (x11.length : Int) then ((codec_Number.f (rd x11 x13)).bind fun bt276 => (if x4.length < 8796093022208 then (slot_named.l0 k (x4 ++ [bt276.1]) x11 x12 (wrap64 (x13 + 1))) else (none))) else (none)) else (none)) else ((codec_Row.f x4).bind fun bt281 => (if (bt281.1.size : Int) > 200 then (some (bt281.1, 2)) else (some (bt281.1, bt281.2))))
def slot_named.f (k : Nat) (l0 : List Int) : Option (ByteArray × Int) := slot_named.l0 k ([] : List ByteArray) l0 (l0.length : Int) 0
set_option maxHeartbeats 8000000 in
set_option maxRecDepth 100000 in
theorem slot_named.calls (k : Nat) (A0 : Option Addr) (c0 : Nat) (l0 : List Int) (r1 : ByteArray) (r2 : Int) (w : World) (hr0 : Kd.C (Kd.int .i64) w A0 l0.length l0) (hc0 : l0.length ≤ c0) (h : slot_named.f k l0 = some (r1, r2)) :
    Calls Try.prog 44 #[.slice A0 l0.length c0] w fun e w' => e = .returned (.tuple #[.string r1, .int .i64 r2]) ∧ Below w.heap.size w w' := by
  have HR0 := Aside0.mk hr0
  have HC0 := Aside0.mk hc0
  clear hr0 hc0
  have HB := Aside0.mk (Below.refl w.heap.size w)
  have H : (slot_named.l0 k ([] : List ByteArray) l0 (l0.length : Int) 0) = some (r1, r2) := h
  clear h
  have H' := Aside0.mk H
  clear H
  go_enter Try.func44, Try.ntmps44
  go_wp2
  go_loopg [4, 13] k (fun kq v4 v13 w' => ∃ (x4_1 : List ByteArray) (x13_1 : Int), v13 = .int .i64 x13_1 ∧ Aside0 (slot_named.l0 kq x4_1 l0 (l0.length : Int) x13_1 = some (r1, r2)) ∧ Aside0 (kq ≤ k) ∧ Aside0 (Kd.R Kd.string 9 w' w.heap.size (fun _ => True) v4 x4_1) ∧ Aside0 (Below w.heap.size w w'))
  case atStart => exact ⟨(([] : List ByteArray)), (0), (by first | rfl | (simp; done) | (simp [*]; done)), H', ⟨Nat.le_refl _⟩, ⟨by first | exact Kd.R_nil _ _ _ _ _ | exact Kd.N_nil _ _ _ _ _ | exact Kd.V_nil _ _ _ _ _ | exact Kd.Q_nil _ _ _ _ _ | exact Kd.S_nil _ _ _ _ _⟩, ⟨by repeat (first | (with_reducible first | exact HB.out | apply below_alloc | apply pw_below_drewN | apply below_drew1) | exact HB.out)⟩⟩
  case round =>
    clear H'
    obtain ⟨x4_1, x13_1, rfl, HA, HK1, HO_4, HB⟩ := hrel
    cases gk with
    | zero => exact absurd HA.out (by simp [slot_named.l0])
    | succ k1 =>
      have H := HA.out
      clear HA
      simp only [slot_named.l0] at H
      by_cases c2 : x13_1 < (l0.length : Int)
      · rw [if_pos c2] at H
        have c2b0 : decide (x13_1 < (l0.length : Int)) = true := decide_eq_true c2
        clear c2
        by_cases c3 : 0 ≤ x13_1
        · rw [if_pos c3] at H
          have c3b0 : decide (0 ≤ x13_1) = true := decide_eq_true c3
          clear c3
          by_cases c4 : x13_1 < (l0.length : Int)
          · rw [if_pos c4] at H
            have c4b0 : decide (x13_1 < (l0.length : Int)) = true := decide_eq_true c4
            clear c4
            replace H := Option.bind_eq_some_iff.mp H
            obtain ⟨⟨t276, t277⟩, A50, H⟩ := H
            replace H : (if x4_1.length < 8796093022208 then (slot_named.l0 k1 (x4_1 ++ [t276]) l0 (l0.length : Int) (wrap64 (x13_1 + 1))) else (none)) = some (r1, r2) := H
            have A5 := Aside0.mk A50
            clear A50
            by_cases c6 : x4_1.length < 8796093022208
            · rw [if_pos c6] at H
              have LMc6 := Aside0.mk c6
              clear c6
              obtain ⟨y278, hy278⟩ : ∃ y_ : List ByteArray, y_ = (x4_1 ++ [t276]) := ⟨_, rfl⟩
              replace H : (slot_named.l0 k1 y278 l0 (l0.length : Int) (wrap64 (x13_1 + 1))) = some (r1, r2) := by first | (rw [hy278]; with_reducible exact H) | (have H2_ := (Option.bind_some _ _).symm.trans H; rw [hy278]; with_reducible exact H2_) | (have H2_ := (Option.bind_some _ _).symm.trans H; with_reducible exact H2_) | with_reducible exact H | (rw [hy278]; exact H) | exact H
              have Ny278 := Aside0.mk hy278
              clear hy278
              have H' := Aside0.mk H
              clear H
              have p275 : 0 ≤ (x13_1 : Int) := of_decide_eq_true (by first | (with_reducible assumption) | assumption)
              have q275 : x13_1 < (l0.length : Int) := of_decide_eq_true (by first | (with_reducible assumption) | assumption)
              obtain ⟨ad275, e275, hx275_0⟩ := Kd.at_int HR0.out x13_1 p275 q275
              cases e275
              replace hx275_0 := (HB.out.cell (World.block_lt_of_cell? w _ hx275_0)).trans hx275_0
              replace p275 := eq_true p275
              replace q275 := eq_true q275
              go_wp2_with (first | ((with_reducible refine gate_callee (f := 30) rfl ?_); refine goesL_ (some 19) rfl rfl Try.func30 (by kernel_rfl) rfl #[.int .i64 (rd l0 x13_1)] rfl (by (try simp only [List.map_toArray, List.map_cons, List.map_nil]); first | done | rfl | (simp only [List.length_drop, List.length_take]; rfl)) ?_; (with_reducible refine (codec_Number.calls (rd l0 x13_1) t276 t277 _ A5.out).mono ?_); rintro e w7 ⟨rfl, hb⟩; refine ⟨_, rfl, ?_⟩; have n0_ := Aside0.mk (Kd.R_below (by (with_reducible repeat (first | apply Kd.R_alloc | apply Kd.R_drewN | apply Kd.R_drew)); exact HO_4.out) hb); have n1_ := Aside0.mk (below_step (by repeat (first | (with_reducible first | exact HB.out | apply below_alloc | apply pw_below_drewN | apply below_drew1) | exact HB.out)) hb); clear HO_4; clear HB; have HO_4 := n0_; have HB := n1_; clear n0_ n1_; (try clear hb); (try clear hb2); (try clear hk); (try clear hi)) | ((with_reducible refine gate_builtin (b := .append) (xs := #[.tmp 22, .tmp 24]) rfl ?_); at_builtin; refine Kd.R_append Kd.string (w0 := w) w.heap.size rfl (.tmp 22) (.tmp 24) 22 9 (.string ⟨#[]⟩) 16 rfl Try.underlying22 info9 rfl (by decide) (by omega) u4 x4_1 t276 [.string t276] (fun _ => True) (fun _ => False) rfl rfl ?aP (fun _ hk => hk.elim) ?aF ?aO ?aB ?aS ?aL ?_; (case aP => exact rfl); (case aB => exact (by repeat (first | (with_reducible first | exact HB.out | apply below_alloc | apply pw_below_drewN | apply below_drew1) | exact HB.out))); (case aF => exact (fun _ _ => trivial)); (case aO => exact (by (with_reducible repeat (first | apply Kd.R_alloc | apply Kd.R_drewN | apply Kd.R_drew)); exact HO_4.out)); (case aS => exact (below_size (by repeat (first | (with_reducible first | exact HB.out | apply below_alloc | apply pw_below_drewN | apply below_drew1) | exact HB.out)))); (case aL => have := LMc6.out; omega); intro v279 w8 ho hb hg hat; rw [← Ny278.out] at ho; have n0_ := Aside0.mk (hb); have n1_ := Aside0.mk (ho); clear HB; clear HO_4; have HB := n0_; have HO280 := n1_; clear n0_ n1_; clear ho hb hg hat))
              go_roundg k1
              case measure => have := HK1.out; omega
              case rel => exact ⟨(y278), (wrap64 (x13_1 + 1)), (by first | rfl | (simp; done) | (simp [*]; done)), H', ⟨by have := HK1.out; omega⟩, ⟨by (with_reducible repeat (first | apply Kd.R_alloc | apply Kd.R_drewN | apply Kd.R_drew)); exact HO280.out⟩, ⟨by repeat (first | (with_reducible first | exact HB.out | apply below_alloc | apply pw_below_drewN | apply below_drew1) | exact HB.out)⟩⟩
            · rw [if_neg c6] at H
              exact absurd H (by simp)
          · rw [if_neg c4] at H
            exact absurd H (by simp)
        · rw [if_neg c3] at H
          exact absurd H (by simp)
      · rw [if_neg c2] at H
        have c2b0 : decide (x13_1 < (l0.length : Int)) = false := decide_eq_false c2
        clear c2
        replace H := Option.bind_eq_some_iff.mp H
        obtain ⟨⟨t281, t282⟩, A90, H⟩ := H
        replace H : (if (t281.size : Int) > 200 then (some (t281, 2)) else (some (t281, t282))) = some (r1, r2) := H
        have A9 := Aside0.mk A90
        clear A90
        by_cases c10 : (t281.size : Int) > 200
        · rw [if_pos c10] at H
          have c10b0 : decide (200 < (t281.size : Int)) = true := decide_eq_true c10
          have c10b1 : decide (200 < t281.size) = true := decide_eq_true (by omega)
          clear c10
          simp only [Option.some.injEq, Prod.mk.injEq] at H
          obtain ⟨rfl, rfl⟩ := H
          obtain ⟨Ao11, co11, eo11⟩ := Kd.R_slice HO_4.out
          subst eo11
          go_wp2_with (first | ((with_reducible refine gate_callee (f := 58) rfl ?_); refine goesL_ (some 29) rfl rfl Try.func58 (by kernel_rfl) rfl #[.slice Ao11 x4_1.length co11] rfl (by (try simp only [List.map_toArray, List.map_cons, List.map_nil]); first | done | rfl | (simp only [List.length_drop, List.length_take]; rfl)) ?_; (with_reducible refine (codec_Row.calls _ _ x4_1 t281 t282 _ ?side1 ?side2 A9.out).mono ?_); (case side1 => repeat (first | exact (Kd.R_reads' HO_4.out).2.2 | (with_reducible refine Kd.C_alloc ?_ _) | (with_reducible refine Kd.C_drewN ?_ _) | (with_reducible refine Kd.C_drew ?_))); (case side2 => exact (Kd.R_reads' HO_4.out).2.1); rintro e w12 ⟨rfl, hb⟩; refine ⟨_, rfl, ?_⟩; have n0_ := Aside0.mk (Kd.R_below (by (with_reducible repeat (first | apply Kd.R_alloc | apply Kd.R_drewN | apply Kd.R_drew)); exact HO_4.out) hb); have n1_ := Aside0.mk (below_step (by repeat (first | (with_reducible first | exact HB.out | apply below_alloc | apply pw_below_drewN | apply below_drew1) | exact HB.out)) hb); clear HO_4; clear HB; have HO_4 := n0_; have HB := n1_; clear n0_ n1_; (try clear hb); (try clear hb2); (try clear hk); (try clear hi)))
          go_ret2
          exact ⟨by first | rfl | (simp [errW_none, errW_some] <;> rfl) | (simp [*, errW_none, errW_some] <;> rfl), by repeat (first | (with_reducible first | exact HB.out | apply below_alloc | apply pw_below_drewN | apply below_drew1) | exact HB.out)⟩
        · rw [if_neg c10] at H
          have c10b0 : decide (200 < (t281.size : Int)) = false := decide_eq_false c10
          have c10b1 : decide (200 < t281.size) = false := decide_eq_false (by omega)
          clear c10
          simp only [Option.some.injEq, Prod.mk.injEq] at H
          obtain ⟨rfl, rfl⟩ := H
          obtain ⟨Ao13, co13, eo13⟩ := Kd.R_slice HO_4.out
          subst eo13
          go_wp2_with (first | ((with_reducible refine gate_callee (f := 58) rfl ?_); refine goesL_ (some 29) rfl rfl Try.func58 (by kernel_rfl) rfl #[.slice Ao13 x4_1.length co13] rfl (by (try simp only [List.map_toArray, List.map_cons, List.map_nil]); first | done | rfl | (simp only [List.length_drop, List.length_take]; rfl)) ?_; (with_reducible refine (codec_Row.calls _ _ x4_1 t281 t282 _ ?side1 ?side2 A9.out).mono ?_); (case side1 => repeat (first | exact (Kd.R_reads' HO_4.out).2.2 | (with_reducible refine Kd.C_alloc ?_ _) | (with_reducible refine Kd.C_drewN ?_ _) | (with_reducible refine Kd.C_drew ?_))); (case side2 => exact (Kd.R_reads' HO_4.out).2.1); rintro e w14 ⟨rfl, hb⟩; refine ⟨_, rfl, ?_⟩; have n0_ := Aside0.mk (Kd.R_below (by (with_reducible repeat (first | apply Kd.R_alloc | apply Kd.R_drewN | apply Kd.R_drew)); exact HO_4.out) hb); have n1_ := Aside0.mk (below_step (by repeat (first | (with_reducible first | exact HB.out | apply below_alloc | apply pw_below_drewN | apply below_drew1) | exact HB.out)) hb); clear HO_4; clear HB; have HO_4 := n0_; have HB := n1_; clear n0_ n1_; (try clear hb); (try clear hb2); (try clear hk); (try clear hi)))
          go_ret2
          exact ⟨by first | rfl | (simp [errW_none, errW_some] <;> rfl) | (simp [*, errW_none, errW_some] <;> rfl), by repeat (first | (with_reducible first | exact HB.out | apply below_alloc | apply pw_below_drewN | apply below_drew1) | exact HB.out)⟩

end Go.Proofs.Ytkgcaheddhfpgaa.P
/-
  What slot's helpers answer, told plainly.
-/
namespace Go.Proofs.Ytkgcaheddhfpgaa.P
open Go.RowKit Go.Proofs Go.Proofs.CodecPlain Go.Proofs.YtkgcaheddhfpgaaW.PrintWords Go.Proofs.YtkgcaheddhfpgaaW.PrintLast Go.Proofs.Plain

theorem wrap_sl {x : Int} (h0 : -9223372036854775808 ≤ x) (h1 : x ≤ 9223372036854775807) : wrap64 x = x := by unfold wrap64; omega
theorem slot_rd (m : List Int) (i : Nat) (h : i < m.length) : rd m (i : Int) = m[i] := by simp [rd, h]
theorem slot_rds (m : List ByteArray) (i : Nat) (h : i < m.length) : rdOf ByteArray.empty m (i : Int) = m[i] := by simp [rdOf, List.getD_eq_getElem?_getD, h]
theorem index_l0 (l : List Int) (x : Int) (hl : l.length ≤ 1000000000) (d : Nat) : ∀ i, i + d = l.length → ∃ r, Ev (fun k => slices_Index_int_int.l0 k l x (l.length : Int) (i : Int)) r ∧ (decide (r ≥ 0)) = decide (x ∈ l.drop i) := by
  induction d with
  | zero =>
    intro i hi
    refine ⟨-1, Ev.step (f := fun _ => some (-1)) (fun k => ?_) (Ev.now _), ?_⟩
    · simp only [slices_Index_int_int.l0]
      rw [if_neg (by omega)]
    · rw [List.drop_of_length_le (by omega)]
      simp
  | succ d ih =>
    intro i hi
    have hlt : i < l.length := by omega
    have hrd := slot_rd l i hlt
    have hdr : l.drop i = l[i] :: l.drop (i + 1) := List.drop_eq_getElem_cons hlt
    have hw : wrap64 ((i : Int) + 1) = ((i + 1 : Nat) : Int) := wrap_sl (by omega) (by omega)
    by_cases e : x = l[i]
    · refine ⟨(i : Int), Ev.step (f := fun _ => some _) (fun k => ?_) (Ev.now _), ?_⟩
      · simp only [slices_Index_int_int.l0]
        rw [if_pos (by omega), if_pos (by omega), if_pos (by omega), hrd, if_pos e]
      · rw [hdr, decide_eq_true (by omega), decide_eq_true (by rw [e]; exact List.mem_cons_self)]
    · obtain ⟨r, h1, h2⟩ := ih (i + 1) (by omega)
      refine ⟨r, Ev.step (f := fun k => slices_Index_int_int.l0 k l x (l.length : Int) ((i + 1 : Nat) : Int)) (fun k => ?_) h1, ?_⟩
      · simp only [slices_Index_int_int.l0]
        rw [if_pos (by omega), if_pos (by omega), if_pos (by omega), hrd, if_neg e, hw]
      · rw [h2, hdr, decide_eq_decide, List.mem_cons]
        exact ⟨.inr, fun h => h.resolve_left e⟩
theorem contains_ev (l : List Int) (x : Int) (hl : l.length ≤ 1000000000) : Ev (fun k => slices_Contains_int_int.f k l x) (decide (x ∈ l)) := by
  obtain ⟨r, h1, h2⟩ := index_l0 l x hl l.length 0 (by omega)
  rw [List.drop_zero] at h2
  rw [← h2]
  exact Ev.bind h1 (Ev.now _)
/-- One number more of a table. -/
def blkStep (nb : Int) (acc : List Int × Bool) (t : ByteArray) : List Int × Bool :=
  (acc.1 ++ [(getNum t).1], acc.2 && ((getNum t).2.2 && (decide ((getNum t).2.1 = ⟨#[]⟩) && (decide (2 ≤ (getNum t).1) && (decide ((getNum t).1 < nb) && !decide ((getNum t).1 ∈ acc.1))))))
/-- A table, and whether it is one. -/
def blocksV (s : ByteArray) (nb : Int) : List Int × Bool :=
  if s = ⟨#[]⟩ then ([], true) else (((getRow s).1.foldl (blkStep nb) ([], (getRow s).2.2)).1, ((getRow s).1.foldl (blkStep nb) ([], (getRow s).2.2)).2 && decide ((getRow s).2.1 = ⟨#[]⟩))
theorem blkStep_len (nb : Int) (l : List ByteArray) : ∀ acc, (l.foldl (blkStep nb) acc).1.length = acc.1.length + l.length := by
  induction l with
  | nil => intro acc; rfl
  | cons t l ih => intro acc; rw [List.foldl_cons, ih]; simp [blkStep]; omega
theorem empty_iff (s : ByteArray) : s.toList = ([] : List UInt8) ↔ s = ⟨#[]⟩ := by
  constructor
  · intro h
    rw [ByteArray.toList_eq] at h
    exact ba_ext h
  · intro h
    rw [h, ByteArray.toList_eq]
theorem blocks_step (nb : Int) (rest : ByteArray) (L : List ByteArray) (i : Nat) (hi : i < L.length) (hL : L.length ≤ 1000) (acc : List Int × Bool) (ha : acc.1.length ≤ 1000) (r : List Int × Bool)
    (h : Ev (fun k => slot_blocks.l0 k nb rest (blkStep nb acc L[i]).2 (blkStep nb acc L[i]).1 L (L.length : Int) ((i + 1 : Nat) : Int)) r) : Ev (fun k => slot_blocks.l0 k nb rest acc.2 acc.1 L (L.length : Int) (i : Int)) r := by
  have hw : wrap64 ((i : Int) + 1) = ((i + 1 : Nat) : Int) := wrap_sl (by omega) (by omega)
  have hrd := slot_rds L i hi
  have hf : codec_GetNumber.f L[i] = some (getNum L[i]) := rfl
  obtain ⟨o, ok⟩ := acc
  simp only at ha h ⊢
  unfold blkStep at h
  simp only at h
  generalize getNum L[i] = g at *
  obtain ⟨b, m, is⟩ := g
  simp only at h
  have he := empty_iff m
  refine Ev.step (f := fun k => if (ok && (is && (decide (m = ⟨#[]⟩) && (decide (2 ≤ b) && decide (b < nb))))) = true then (slices_Contains_int_int.f k o b).bind (fun t286 => slot_blocks.l0 k nb rest (!t286) (o ++ [b]) L (L.length : Int) ((i + 1 : Nat) : Int)) else slot_blocks.l0 k nb rest false (o ++ [b]) L (L.length : Int) ((i + 1 : Nat) : Int)) (fun k => ?_) ?_
  · simp only [slot_blocks.l0]
    rw [if_pos (by omega), if_pos (by omega), if_pos (by omega), hrd, hf, Option.bind_some, hw]
    simp only [show o.length < 17592186044416 from by omega, if_true]
    cases ok
    · simp
    · cases is
      · simp
      · by_cases hm : m = ⟨#[]⟩
        · by_cases h2 : b ≥ 2
          · by_cases h3 : b < nb
            · have : (2 : Int) ≤ b := h2
              simp [hm, h3, this, (empty_iff (⟨#[]⟩ : ByteArray)).2 rfl]
            · have : (2 : Int) ≤ b := h2
              simp [hm, h3, this, (empty_iff (⟨#[]⟩ : ByteArray)).2 rfl]
          · have : ¬ (2 : Int) ≤ b := h2
            simp [hm, this, (empty_iff (⟨#[]⟩ : ByteArray)).2 rfl]
        · have : ¬ m.toList = [] := fun q => hm (he.1 q)
          simp [hm, this]
  · by_cases hc : (ok && (is && (decide (m = ⟨#[]⟩) && (decide (2 ≤ b) && decide (b < nb))))) = true
    · simp only [hc, if_true]
      refine Ev.bind (contains_ev o b (by omega)) ?_
      have : (ok && (is && (decide (m = ⟨#[]⟩) && (decide (2 ≤ b) && (decide (b < nb) && !decide (b ∈ o)))))) = !decide (b ∈ o) := by
        simp only [Bool.and_eq_true] at hc
        rw [hc.1, hc.2.1, hc.2.2.1, hc.2.2.2.1, hc.2.2.2.2]
        simp
      rw [this] at h
      exact h
    · simp only [hc]
      have : (ok && (is && (decide (m = ⟨#[]⟩) && (decide (2 ≤ b) && (decide (b < nb) && !decide (b ∈ o)))))) = false := by
        revert hc
        cases ok <;> cases is <;> simp
        intro h1 h2 h3 h4
        exact absurd h4 (by have := h1 h2 h3; omega)
      rw [this] at h
      exact h
theorem blocks_l0 (nb : Int) (rest : ByteArray) (L : List ByteArray) (hL : L.length ≤ 1000) (d : Nat) : ∀ (i : Nat) (acc : List Int × Bool), i + d = L.length → acc.1.length = i → Ev (fun k => slot_blocks.l0 k nb rest acc.2 acc.1 L (L.length : Int) (i : Int)) (((L.drop i).foldl (blkStep nb) acc).1, ((L.drop i).foldl (blkStep nb) acc).2 && decide (rest = ⟨#[]⟩)) := by
  induction d with
  | zero =>
    intro i acc hi ha
    rw [List.drop_of_length_le (by omega)]
    obtain ⟨o, ok⟩ := acc
    refine Ev.step (f := fun _ => some (o, ok && decide (rest = ⟨#[]⟩))) (fun k => ?_) (Ev.now _)
    simp only [slot_blocks.l0]
    rw [if_neg (by omega)]
    cases ok
    · simp
    · by_cases hr : rest = ⟨#[]⟩
      · rw [hr]
        simp [(empty_iff (⟨#[]⟩ : ByteArray)).2 rfl]
      · have : ¬ rest.toList = [] := fun q => hr ((empty_iff rest).1 q)
        simp [hr, this]
  | succ d ih =>
    intro i acc hi ha
    have hlt : i < L.length := by omega
    have hdr : L.drop i = L[i] :: L.drop (i + 1) := List.drop_eq_getElem_cons hlt
    refine blocks_step nb rest L i hlt hL acc (by omega) _ ?_
    rw [hdr, List.foldl_cons]
    exact ih (i + 1) (blkStep nb acc L[i]) (by omega) (by simp [blkStep, ha])
theorem getTexts_len : ∀ (n : Nat) (s : ByteArray), (getTexts n s).1.length ≤ n
  | 0, s => by simp [getTexts]
  | n + 1, s => by
    have := getTexts_len n (getText s).2.1
    unfold getTexts
    split
    · split
      · simp only [List.length_cons]; omega
      · simp
    · simp
theorem getRow_len (s : ByteArray) : (getRow s).1.length ≤ 1000 := by
  have hb := getNum_bd s
  unfold getRow
  split
  · rename_i h
    have := getTexts_len (getNum s).1.toNat (getNum s).2.1
    omega
  · simp
theorem blocks_ev (s : ByteArray) (nb : Int) : Ev (fun k => slot_blocks.f k s nb) (blocksV s nb) := by
  unfold slot_blocks.f blocksV
  by_cases h : s = ⟨#[]⟩
  · refine Ev.congr (f := fun _ => some ([], true)) (fun k => ?_) ?_
    · rw [if_pos ((empty_iff s).2 h)]
    · rw [if_pos h]; exact Ev.now _
  · rw [if_neg h]
    have h1 := blocks_l0 nb (getRow s).2.1 (getRow s).1 (getRow_len s) (getRow s).1.length 0 ([], (getRow s).2.2) (by omega) rfl
    rw [List.drop_zero] at h1
    refine Ev.congr (fun k => ?_) h1
    rw [if_neg (fun q => h ((empty_iff s).1 q))]
    rfl
end Go.Proofs.Ytkgcaheddhfpgaa.P
/-
  (*slot.shelf).free, by hand: the blocks of no page.
-/
namespace Go.Proofs.Ytkgcaheddhfpgaa.P
open Go.RowKit Go.Shelf Go.Proofs Go.Proofs.YtkgcaheddhfpgaaW.PrintWords Go.Proofs.YtkgcaheddhfpgaaW.PrintLast Go.Proofs.YtkgcaheddhfpgaaW.PrintMore

/-- A shelf in memory. -/
def shelfC (A0 : Option Addr) (k0 c0 : Nat) (A1 : Option Addr) (k1 c1 : Nat) (n : Int) (A2 : Option Addr) (k2 c2 : Nat) (P : Value) : Array Value := #[.slice A0 k0 c0, .slice A1 k1 c1, .int .i64 n, .slice A2 k2 c2, P]
/-- The blocks of no page, of the first k. -/
def freeK (tb : List Int) (k : Nat) : List Int := ((List.range k).filter (fun i : Nat => decide (2 ≤ i) && !decide ((i : Int) ∈ tb))).map (fun i : Nat => (i : Int))
theorem freeK_succ (tb : List Int) (k : Nat) : freeK tb (k + 1) = freeK tb k ++ (if (decide (2 ≤ k) && !decide ((k : Int) ∈ tb)) = true then [(k : Int)] else []) := by
  unfold freeK
  rw [List.range_succ, List.filter_append, List.map_append]
  congr 1
  by_cases h : (decide (2 ≤ k) && !decide ((k : Int) ∈ tb)) = true
  · rw [if_pos h, List.filter_cons_of_pos (by exact h)]; rfl
  · rw [if_neg h, List.filter_cons_of_neg (by exact h)]; rfl
theorem freeK_length (tb : List Int) (k : Nat) : (freeK tb k).length ≤ k := by
  unfold freeK
  rw [List.length_map]
  exact Nat.le_trans (List.length_filter_le _ _) (by simp)
theorem freeK_two (tb : List Int) (k : Nat) (h : k ≤ 2) : freeK tb k = [] := by
  unfold freeK
  rw [List.map_eq_nil_iff, List.filter_eq_nil_iff]
  intro i hi
  have := List.mem_range.1 hi
  simp
  omega

set_option maxRecDepth 100000 in
set_option maxHeartbeats 4000000 in
theorem slot_free_calls (b : Nat) (A0 : Option Addr) (k0 c0 : Nat) (A1 : Option Addr) (k1 c1 : Nat) (n : Int) (A2 : Option Addr) (tb : List Int) (c2 : Nat) (P : Value) (w : World)
    (hb : w.heap[b]? = some (.cells (shelfC A0 k0 c0 A1 k1 c1 n A2 tb.length c2 P) 81 (0, 0))) (hr : Kd.C (Kd.int .i64) w A2 tb.length tb) (hc : tb.length ≤ c2) (hk : k0 ≤ 1000000000) (ht : tb.length ≤ 1000000000) :
    Calls Try.prog 41 #[.pointer (some ⟨b, 0, none⟩)] w fun e W' => ∃ v', e = .returned v' ∧ Kd.R (Kd.int .i64) 3 W' w.heap.size (fun _ => True) v' (freeK tb k0) ∧ Below w.heap.size w W' := by
  have HBK := Aside0.mk hb
  have HR := Aside0.mk hr
  have hlt := (Array.getElem?_eq_some_iff.1 hb).1
  clear hb hr
  go_enter Try.func41, Try.ntmps41
  go_wp2
  go_loopw [3, 4] (fun o i wr => ∃ k : Nat, 2 ≤ k ∧ (k ≤ k0 ∨ k = 2) ∧ i = .int .i64 k ∧ Aside0 (Kd.R (Kd.int .i64) 3 wr w.heap.size (fun _ => True) o (freeK tb k)) ∧ Aside0 (Below w.heap.size w wr))
    (fun _ i _ => k0 - (intOf i).toNat)
  case atStart => exact ⟨2, Nat.le_refl _, .inr rfl, rfl, ⟨by rw [freeK_two tb 2 (Nat.le_refl _)]; exact Kd.R_nil _ _ _ _ _⟩, ⟨Below.refl _ _⟩⟩
  case round =>
    obtain ⟨k, hk2, hkk, rfl, HO, HB⟩ := hrel
    have hbk := (HB.out.block b hlt).trans HBK.out
    have q0 := blk_cell hbk 0
    have q3 := blk_cell hbk 3
    unfold shelfC at q0 q3
    simp only [List.getElem?_toArray, List.getElem?_cons_zero, List.getElem?_cons_succ] at q0 q3
    clear hbk
    by_cases hlk : k < k0
    · have hnx := Aside0.mk (freeK_succ tb k)
      have hL := Aside0.mk (freeK_length tb k)
      obtain ⟨K, hK⟩ := contains_ev tb (k : Int) ht
      have HK := Aside0.mk (hK K (Nat.le_refl _))
      simp only at HK
      clear hK
      by_cases hin : (k : Int) ∈ tb
      · have e1 : decide ((k : Int) ∈ tb) = true := decide_eq_true hin
        rw [e1] at HK
        have hnx2 := Aside0.mk (show freeK tb (k + 1) = freeK tb k by rw [hnx.out, e1]; simp)
        clear hnx hin e1
        go_wp2_with (first | (go_at_call 56; (with_reducible refine (slices_Contains_int_int.calls K A2 c2 tb (k : Int) true _ (Kd.C_below HR.out HB.out) hc HK.out).mono ?_); rintro e w3 ⟨rfl, ⟨nd, rfl⟩⟩; have HB3 := Aside0.mk (pw_below_drewN HB.out nd); have HO3 := Aside0.mk (Kd.R_drewN HO.out nd)))
        go_roundw
        case rel => exact ⟨k + 1, by omega, .inl (by omega), by go_num, by rw [hnx2.out]; exact HO3, HB3⟩
        case measure => simp [intOf]; omega
      · have e1 : decide ((k : Int) ∈ tb) = false := decide_eq_false hin
        rw [e1] at HK
        have hnx2 := Aside0.mk (show freeK tb (k + 1) = freeK tb k ++ [(k : Int)] by rw [hnx.out, e1]; simp [hk2])
        clear hnx hin e1
        go_wp2_with (first | (go_at_call 56; (with_reducible refine (slices_Contains_int_int.calls K A2 c2 tb (k : Int) false _ (Kd.C_below HR.out HB.out) hc HK.out).mono ?_); rintro e w3 ⟨rfl, ⟨nd, rfl⟩⟩; have HB3 := Aside0.mk (pw_below_drewN HB.out nd); have HO3 := Aside0.mk (Kd.R_drewN HO.out nd)) | ((with_reducible refine gate_builtin (b := .append) (xs := #[.tmp 22, .tmp 24]) rfl ?_); at_builtin; refine Kd.R_append (Kd.int .i64) (w0 := w) w.heap.size rfl (.tmp 22) (.tmp 24) 39 3 (.int .i64 0) 8 rfl Try.underlying39 info3 rfl (by decide) (by omega) _ (freeK tb k) (k : Int) [.int .i64 (k : Int)] (fun _ => True) (fun _ => False) rfl rfl ?aP (fun _ hk => hk.elim) ?aF ?aO ?aB ?aS ?aL ?_; (case aP => exact rfl); (case aB => exact HB3.out); (case aF => exact (fun _ _ => trivial)); (case aO => exact HO3.out); (case aS => exact HB3.out.size); (case aL => have := hL.out; omega); intro v1 w5 ho hb hg hat; have HO5 := Aside0.mk ho; have HB5 := Aside0.mk hb; clear ho hb hg hat))
        go_roundw
        case rel => exact ⟨k + 1, by omega, .inl (by omega), by go_num, by rw [hnx2.out]; exact HO5, HB5⟩
        case measure => simp [intOf]; omega
    · have hfe := Aside0.mk (show freeK tb k = freeK tb k0 by
        rcases hkk with h | h
        · rw [show k = k0 by omega]
        · rw [freeK_two tb k (by omega), freeK_two tb k0 (by omega)])
      go_wp2
      go_ret
      exact ⟨_, rfl, by rw [← hfe.out]; exact HO.out, HB.out⟩
end Go.Proofs.Ytkgcaheddhfpgaa.P
/-
  twin.Stop's own write, as a deed, by hand.
-/
namespace Go.Proofs.Ytkgcaheddhfpgaa.P
open Go.RowKit Go.Proofs.YtkgcaheddhfpgaaW.PrintWords Go.Proofs.YtkgcaheddhfpgaaW.PrintLast

set_option maxHeartbeats 8000000 in
set_option maxRecDepth 100000 in
theorem twin_deed_calls (A0 : Option Addr) (c0 : Nat) (l0 : List ByteArray) (A1 : Option Addr) (c1 : Nat) (l1 : List S73) (a : Int) (n0 : Int) (t0 : ByteArray) (k0 : Bool) (n1 : Int) (t1 : ByteArray) (k1 : Bool) (q : Int) (f : ByteArray) (b1 : List ByteArray) (u1 : List S73) (e1 : Int) (B1 B2 B3 : Nat) (w : World)
    (hr0 : Kd.C Kd.string w A0 l0.length l0) (hc0 : l0.length ≤ c0) (hr1 : Kd.C k73 w A1 l1.length l1) (hc1 : l1.length ≤ c1) (ha0 : 0 ≤ a) (ha1 : a ≤ 1000) (hq0 : 0 ≤ q) (hq1 : q ≤ 1) (hq : newV n0 k0 n1 k1 = q) (h : writeV l0 l1 (a + 1 - q) f = (b1, u1, e1))
    (hA : w.heap[B1]? = some (.cells #[.int .i64 a] 3 (0, 0))) (hL : w.heap[B2]? = some (.cells (blkT n0 t0 k0 n1 t1 k1) 62 (0, 0))) (hF : w.heap[B3]? = some (.cells #[.string f] 9 (0, 0))) :
    Calls Try.prog 32 #[.agg #[.slice A0 l0.length c0, .slice A1 l1.length c1], .pointer (some ⟨B1, 0, none⟩), .pointer (some ⟨B2, 0, none⟩), .pointer (some ⟨B3, 0, none⟩)] w fun e w' => ∃ v0_ v1_ : Value, e = .returned (.tuple #[.agg #[v0_, v1_], .int .i64 e1]) ∧ Kd.R Kd.string 9 w' w.heap.size (fun _ => True) v0_ b1 ∧ Kd.R k73 73 w' w.heap.size (fun _ => True) v1_ u1 ∧ Below w.heap.size w w' := by
  have HN := Aside0.mk (fun W => (twin_newer_calls n0 t0 k0 n1 t1 k1 W).mono (fun e w' (h : _ ∧ _) => (⟨by rw [h.1, hq], h.2⟩ : e = .returned (.int .i64 q) ∧ Below W.heap.size W w')))
  have HW := Aside0.mk (fun (W : World) (hb : Below w.heap.size w W) => disk_Write.calls A0 c0 l0 A1 c1 l1 (a + 1 - q) f b1 u1 e1 W (Kd.C_below hr0 hb) hc0 (Kd.C_below hr1 hb) hc1 (congrArg some h))
  have HBd0 := ((Below.refl w.heap.size w).alloc (Nat.le_refl _) (.cells #[.slice A0 l0.length c0, .slice A1 l1.length c1] 25)).alloc (by simp) (.cells #[.slice none 0 0, .slice none 0 0] 25)
  have HDd := Aside0.mk (blk_drew (blk_alloc (blk_new w (.cells #[.slice A0 l0.length c0, .slice A1 l1.length c1] 25)) (.cells #[.slice none 0 0, .slice none 0 0] 25)))
  have hE := blk_drew (blk_new (w.alloc (.cells #[.slice A0 l0.length c0, .slice A1 l1.length c1] 25)) (.cells #[.slice none 0 0, .slice none 0 0] 25))
  rw [World.size_alloc] at hE
  have HEd := Aside0.mk hE
  have HAd := Aside0.mk (blk_drew (blk_alloc (blk_alloc hA (.cells #[.slice A0 l0.length c0, .slice A1 l1.length c1] 25)) (.cells #[.slice none 0 0, .slice none 0 0] 25)))
  have HLd := Aside0.mk (blk_drew (blk_alloc (blk_alloc hL (.cells #[.slice A0 l0.length c0, .slice A1 l1.length c1] 25)) (.cells #[.slice none 0 0, .slice none 0 0] 25)))
  have HFd := Aside0.mk (blk_drew (blk_alloc (blk_alloc hF (.cells #[.slice A0 l0.length c0, .slice A1 l1.length c1] 25)) (.cells #[.slice none 0 0, .slice none 0 0] 25)))
  have HBd := Aside0.mk (below_drew1 HBd0)
  have hw1 : IntKind.i64.wrap (a + 1) = a + 1 := by rw [i64_w]; unfold wrap64; omega
  have hw2 : IntKind.i64.wrap (a + 1 - q) = a + 1 - q := by rw [i64_w]; unfold wrap64; omega
  clear hr0 hr1 hE hA hL hF HBd0 hq h ha0 ha1 hq0 hq1
  go_enter Try.func32, Try.ntmps32
  go_wp2
  refine start_ (n := 12) (S := fun w' => w'.cell? ⟨w.heap.size, 0, none⟩ = some (.slice A0 l0.length c0) ∧ w'.cell? ⟨w.heap.size, 1, none⟩ = some (.slice A1 l1.length c1) ∧ w'.cell? ⟨B1, 0, none⟩ = some (.int .i64 a) ∧ w'.cell? ⟨B2, 0, none⟩ = some (.int .i64 n0) ∧ w'.cell? ⟨B2, 1, none⟩ = some (.string t0) ∧ w'.cell? ⟨B2, 2, none⟩ = some (.bool k0) ∧ w'.cell? ⟨B2, 3, none⟩ = some (.int .i64 n1) ∧ w'.cell? ⟨B2, 4, none⟩ = some (.string t1) ∧ w'.cell? ⟨B2, 5, none⟩ = some (.bool k1) ∧ w'.cell? ⟨B3, 0, none⟩ = some (.string f)) (ds := [10]) #[false, false, false, false, false, false, false, false, false, false, false, false] (by kernel_rfl) rfl rfl ⟨(blk_cell HDd.out 0).trans rfl, (blk_cell HDd.out 1).trans rfl, (blk_cell HAd.out 0).trans rfl, (blk_cell HLd.out 0).trans rfl, (blk_cell HLd.out 1).trans rfl, (blk_cell HLd.out 2).trans rfl, (blk_cell HLd.out 3).trans rfl, (blk_cell HLd.out 4).trans rfl, (blk_cell HLd.out 5).trans rfl, (blk_cell HFd.out 0).trans rfl⟩ (fun hHeld => ?_)
  generalize World.drew _ = w1 at HDd HEd HAd HLd HFd HBd hHeld ⊢
  have HD1 := HDd
  have HE1 := HEd
  have HA1 := HAd
  have HL1 := HLd
  have HF1 := HFd
  have HB1 := HBd
  refine take_ (i := 0) (N := some 7) (v := ?_) (a' := ?_) #[true, false, false, false, false, false, false, false, false, false, false, false] rfl rfl (by kernel_rfl) (fun _ _ _ h => h) (Or.inl ⟨by rfl, ?_⟩) hHeld ?_ ?_
  rotate_left
  · rintro w' ⟨s0, s1, s2, s3, s4, s5, s6, s7, s8, s9⟩
    go_simp
    with_reducible rfl
  rotate_left
  · simp only [Act.put, List.setIfInBounds_toArray, List.set_cons_zero, List.set_cons_succ, i64_w, i32_w]
    rfl
  refine take_ (i := 1) (N := some 8) (v := ?_) (a' := ?_) #[true, true, false, false, false, false, false, false, false, false, false, false] rfl rfl (by kernel_rfl) (fun _ _ _ h => h) (Or.inl ⟨by rfl, ?_⟩) hHeld ?_ ?_
  rotate_left
  · rintro w' ⟨s0, s1, s2, s3, s4, s5, s6, s7, s8, s9⟩
    go_simp
    with_reducible rfl
  rotate_left
  · simp only [Act.put, List.setIfInBounds_toArray, List.set_cons_zero, List.set_cons_succ, i64_w, i32_w]
    rfl
  refine pure_ (i := 2) (N := some 9) (v := ?_) (a' := ?_) #[true, true, true, false, false, false, false, false, false, false, false, false] rfl rfl (by kernel_rfl) (fun _ _ _ h => h) (Or.inl ⟨by rfl, ?_⟩) ?_ ?_
  rotate_left
  · intro w'
    go_simp
    with_reducible rfl
  rotate_left
  · simp only [Act.put, List.setIfInBounds_toArray, List.set_cons_zero, List.set_cons_succ, i64_w, i32_w]
    rfl
  refine take_ (i := 3) (N := some 10) (v := ?_) (a' := ?_) #[true, true, true, true, false, false, false, false, false, false, false, false] rfl rfl (by kernel_rfl) (fun _ _ _ h => h) (Or.inl ⟨by rfl, ?_⟩) hHeld ?_ ?_
  rotate_left
  · rintro w' ⟨s0, s1, s2, s3, s4, s5, s6, s7, s8, s9⟩
    go_simp
    with_reducible rfl
  rotate_left
  · simp only [Act.put, List.setIfInBounds_toArray, List.set_cons_zero, List.set_cons_succ, i64_w, i32_w]
    rfl
  refine take_ (i := 6) (N := some 13) (v := ?_) (a' := ?_) #[true, true, true, true, false, false, true, false, false, false, false, false] rfl rfl (by kernel_rfl) (fun _ _ _ h => h) (Or.inl ⟨by rfl, ?_⟩) hHeld ?_ ?_
  rotate_left
  · rintro w' ⟨s0, s1, s2, s3, s4, s5, s6, s7, s8, s9⟩
    go_simp
    with_reducible rfl
  rotate_left
  · simp only [Act.put, List.setIfInBounds_toArray, List.set_cons_zero, List.set_cons_succ, i64_w, i32_w]
    rfl
  refine one_ (i := 4) (N := some 11) #[true, true, true, true, true, false, true, false, false, false, false, false] rfl rfl (by kernel_rfl) (by decide) (fun K hK => ?_)
  refine goes_ Try.func29 (by kernel_rfl) rfl #[.agg (blkT n0 t0 k0 n1 t1 k1)] (by rfl) rfl rfl (by (try simp only [List.map_toArray, List.map_cons, List.map_nil]); first | done | rfl) ?_
  refine (HN.out w1).mono ?_
  rintro e w3 ⟨rfl, hb⟩
  refine ⟨_, rfl, ?_⟩
  have HD3 := Aside0.mk (blk_below HD1.out hb)
  have HE3 := Aside0.mk (blk_below HE1.out hb)
  have HA3 := Aside0.mk (blk_below HA1.out hb)
  have HL3 := Aside0.mk (blk_below HL1.out hb)
  have HF3 := Aside0.mk (blk_below HF1.out hb)
  have HB3 := Aside0.mk (HB1.out.trans (hb.mono HB1.out.size))
  clear hb
  refine hK.out _ _ ⟨(blk_cell HD3.out 0).trans rfl, (blk_cell HD3.out 1).trans rfl, (blk_cell HA3.out 0).trans rfl, (blk_cell HL3.out 0).trans rfl, (blk_cell HL3.out 1).trans rfl, (blk_cell HL3.out 2).trans rfl, (blk_cell HL3.out 3).trans rfl, (blk_cell HL3.out 4).trans rfl, (blk_cell HL3.out 5).trans rfl, (blk_cell HF3.out 0).trans rfl⟩ (fun hHeld => ?_)
  clear hK K
  refine norm_ (a' := ?_) ?_ ?_
  rotate_left
  · show Act.put _ (some 11) _ = _
    simp only [Act.put, List.setIfInBounds_toArray, List.set_cons_zero, List.set_cons_succ, i64_w, i32_w]
    rfl
  refine pure_ (i := 5) (N := some 12) (v := ?_) (a' := ?_) #[true, true, true, true, true, true, true, false, false, false, false, false] rfl rfl (by kernel_rfl) (fun _ _ _ h => h) (Or.inl ⟨by rfl, ?_⟩) ?_ ?_
  rotate_left
  · intro w'
    go_simp
    with_reducible rfl
  rotate_left
  · simp only [Act.put, List.setIfInBounds_toArray, List.set_cons_zero, List.set_cons_succ, i64_w, i32_w]
    rfl
  refine one_ (i := 7) (N := some 14) #[true, true, true, true, true, true, true, true, false, false, false, false] rfl rfl (by kernel_rfl) (by decide) (fun K hK => ?_)
  refine goes_ Try.func33 (by kernel_rfl) rfl #[.agg #[.slice A0 l0.length c0, .slice A1 l1.length c1], .int .i64 (a + 1 - q), .string f] (by rfl) rfl rfl (by (try simp only [List.map_toArray, List.map_cons, List.map_nil]); first | done | rfl) ?_
  refine (HW.out w3 HB3.out).mono ?_
  rintro e w4 ⟨v0, v1, rfl, hR0, hR1, hb⟩
  refine ⟨_, rfl, ?_⟩
  obtain ⟨A4, c4, rfl⟩ := Kd.R_slice hR0
  obtain ⟨A5, c5, rfl⟩ := Kd.R_slice hR1
  have HP4 := Aside0.mk (Kd.R_lower hR0 HB3.out.size)
  have HQ4 := Aside0.mk (Kd.R_lower hR1 HB3.out.size)
  have HD4 := Aside0.mk (blk_below HD3.out hb)
  have HE4 := Aside0.mk (blk_below HE3.out hb)
  have HA4 := Aside0.mk (blk_below HA3.out hb)
  have HL4 := Aside0.mk (blk_below HL3.out hb)
  have HF4 := Aside0.mk (blk_below HF3.out hb)
  have HB4 := Aside0.mk (HB3.out.trans (hb.mono HB3.out.size))
  clear hb hR0 hR1
  have z0 := blk_cell HE4.out 0
  have z1 := blk_cell HE4.out 1
  have f0 := blk_frozen HE4.out 0
  have f1 := blk_frozen HE4.out 1
  refine hK.out _ _ ⟨(blk_cell HD4.out 0).trans rfl, (blk_cell HD4.out 1).trans rfl, (blk_cell HA4.out 0).trans rfl, (blk_cell HL4.out 0).trans rfl, (blk_cell HL4.out 1).trans rfl, (blk_cell HL4.out 2).trans rfl, (blk_cell HL4.out 3).trans rfl, (blk_cell HL4.out 4).trans rfl, (blk_cell HL4.out 5).trans rfl, (blk_cell HF4.out 0).trans rfl⟩ (fun hHeld => ?_)
  clear hK K
  refine norm_ (a' := ?_) ?_ ?_
  rotate_left
  · show Act.put _ (some 14) _ = _
    simp only [Act.put, List.setIfInBounds_toArray, List.set_cons_zero, List.set_cons_succ, i64_w, i32_w]
    rfl
  refine pure_ (i := 8) (N := some 15) (v := ?_) (a' := ?_) #[true, true, true, true, true, true, true, true, true, false, false, false] rfl rfl (by kernel_rfl) (fun _ _ _ h => h) (Or.inl ⟨by rfl, ?_⟩) ?_ ?_
  rotate_left
  · intro w'
    go_simp
    with_reducible rfl
  rotate_left
  · simp only [Act.put, List.setIfInBounds_toArray, List.set_cons_zero, List.set_cons_succ, i64_w, i32_w]
    rfl
  refine pure_ (i := 9) (N := some 16) (v := ?_) (a' := ?_) #[true, true, true, true, true, true, true, true, true, true, false, false] rfl rfl (by kernel_rfl) (fun _ _ _ h => h) (Or.inl ⟨by rfl, ?_⟩) ?_ ?_
  rotate_left
  · intro w'
    go_simp
    with_reducible rfl
  rotate_left
  · simp only [Act.put, List.setIfInBounds_toArray, List.set_cons_zero, List.set_cons_succ, i64_w, i32_w]
    rfl
  refine last_ (i := 10) (N := none) #[true, true, true, true, true, true, true, true, true, true, true, false] rfl rfl (by kernel_rfl) (by decide) (fun K hK => ?_)
  refine skip_ (w1 := ?_) (by rfl) rfl ?_ ?_
  rotate_left
  · go_simp
    rfl
  refine hK.out _ _ ?_
  clear hK K
  refine pure_ (i := 11) (N := some 6) (v := ?_) (a' := ?_) #[true, true, true, true, true, true, true, true, true, true, true, true] rfl rfl (by kernel_rfl) (fun _ _ _ h => h) (Or.inl ⟨by rfl, ?_⟩) ?_ ?_
  rotate_left
  · intro w'
    go_simp
    with_reducible rfl
  rotate_left
  · simp only [Act.put, List.setIfInBounds_toArray, List.set_cons_zero, List.set_cons_succ, i64_w, i32_w]
    rfl
  refine done_ (by kernel_rfl) ?_
  have HE5 := blk_set HE4.out 0 (.slice A4 b1.length c4)
  have HE6 := blk_set HE5 1 (.slice A5 u1.length c5)
  have g0 := blk_cell HE6 0
  have g1 := blk_cell HE6 1
  have qs : ∀ q, q ∈ 9 :: Kd.string.E → q ≠ 25 := by intro q hq; simp [Kd.string, Kd.scalar] at hq; subst hq; decide
  have qw : ∀ q, q ∈ 73 :: k73.E → q ≠ 25 := by intro q hq; simp [k73, Kd.iso, Kd.pair, Kd.int, Kd.string, Kd.scalar] at hq; subst hq; decide
  have HP6 := Aside0.mk (Kd.R_set (Kd.R_set HP4.out HE4.out qs 0 (.slice A4 b1.length c4)) HE5 qs 1 (.slice A5 u1.length c5))
  have HQ6 := Aside0.mk (Kd.R_set (Kd.R_set HQ4.out HE4.out qw 0 (.slice A4 b1.length c4)) HE5 qw 1 (.slice A5 u1.length c5))
  have HB6 := Aside0.mk ((HB4.out.setCell (p := ⟨w.heap.size + 1, 0, none⟩) (by show w.heap.size ≤ w.heap.size + 1; omega) (.slice A4 b1.length c4)).setCell (p := ⟨w.heap.size + 1, 1, none⟩) (by show w.heap.size ≤ w.heap.size + 1; omega) (.slice A5 u1.length c5))
  clear HE5 HE6 qs qw
  go_wp2
  refine bodyPost_ret (v := .tuple #[.agg #[.slice A4 b1.length c4, .slice A5 u1.length c5], .int .i64 e1]) ?_ rfl ⟨_, _, rfl, HP6.out, HQ6.out, HB6.out⟩
  simp [results, Try.results32, go_sem, g0, g1]
end Go.Proofs.Ytkgcaheddhfpgaa.P
/-
  twin.Stop, by hand: what is refused.
-/
namespace Go.Proofs.Ytkgcaheddhfpgaa.P
open Go.RowKit Go.Proofs.YtkgcaheddhfpgaaW.PrintWords Go.Proofs.YtkgcaheddhfpgaaW.PrintLast

attribute [local go_sem] zero_twin
/-- The end of a Stop: what is told, in rows of its own. -/
def StopPost (w : World) (b : List ByteArray) (u : List S73) (d : Bool) (er : Int) (e : Ending) (w' : World) : Prop := ∃ v0_ v1_ : Value, e = .returned (.tuple #[.agg #[v0_, v1_], .bool d, .int .i64 er]) ∧ Kd.R Kd.string 9 w' w.heap.size (fun _ => True) v0_ b ∧ Kd.R k73 73 w' w.heap.size (fun _ => True) v1_ u ∧ Below w.heap.size w w'
theorem pick3 {W : World} {g : Nat} {n0 : Int} {t0 : ByteArray} {k0 : Bool} {n1 : Int} {t1 : ByteArray} {k1 : Bool} {q xn : Int} {xt : ByteArray} {xk : Bool} (hqx : q = 0 ∧ xn = n0 ∧ xt = t0 ∧ xk = k0 ∨ q = 1 ∧ xn = n1 ∧ xt = t1 ∧ xk = k1) (h : W.heap[g]? = some (.cells (blkT n0 t0 k0 n1 t1 k1) 62 (0, 0))) :
    W.cell? ⟨g, q.toNat * 3, none⟩ = some (.int .i64 xn) ∧ W.cell? ⟨g, q.toNat * 3 + 1, none⟩ = some (.string xt) ∧ W.cell? ⟨g, q.toNat * 3 + 2, none⟩ = some (.bool xk) := by
  rcases hqx with ⟨rfl, rfl, rfl, rfl⟩ | ⟨rfl, rfl, rfl, rfl⟩
  · exact ⟨(blk_cell h 0).trans rfl, (blk_cell h 1).trans rfl, (blk_cell h 2).trans rfl⟩
  · exact ⟨(blk_cell h 3).trans rfl, (blk_cell h 4).trans rfl, (blk_cell h 5).trans rfl⟩
set_option maxHeartbeats 16000000 in
set_option maxRecDepth 100000 in
theorem twin_Stop_A (k : Nat) (A0 : Option Addr) (c0 : Nat) (l0 : List ByteArray) (A1 : Option Addr) (c1 : Nat) (l1 : List S73) (a : Int) (s : ByteArray) (deeds : Int) (n0 : Int) (t0 : ByteArray) (k0 : Bool) (n1 : Int) (t1 : ByteArray) (k1 : Bool) (er : Int) (q xn : Int) (xt : ByteArray) (xk : Bool) (hq : newV n0 k0 n1 k1 = q) (hqx : q = 0 ∧ xn = n0 ∧ xt = t0 ∧ xk = k0 ∨ q = 1 ∧ xn = n1 ∧ xt = t1 ∧ xk = k1) (w : World) (hr0 : Kd.C Kd.string w A0 l0.length l0) (hc0 : l0.length ≤ c0) (hr1 : Kd.C k73 w A1 l1.length l1) (hc1 : l1.length ≤ c1) (hpair : twin_pair.f k l0 l1 a = some (n0, t0, k0, n1, t1, k1, er)) (he : er ≠ 0) :
    Calls Try.prog 15 #[.agg #[.slice A0 l0.length c0, .slice A1 l1.length c1], .int .i64 a, .string s, .int .i64 deeds] w (StopPost w [] [] false er) := by
  have HD_0 : Aside0 ((((w.alloc (.cells #[.slice A0 l0.length c0, .slice A1 l1.length c1] 25)).alloc (.cells #[.int .i64 a] 3)).alloc (.cells #[.slice none 0 0, .slice none 0 0] 25)).heap[w.heap.size]? = some (.cells #[.slice A0 l0.length c0, .slice A1 l1.length c1] 25 (0, 0))) := ⟨blk_alloc (blk_alloc (blk_new w (.cells #[.slice A0 l0.length c0, .slice A1 l1.length c1] 25)) (.cells #[.int .i64 a] 3)) (.cells #[.slice none 0 0, .slice none 0 0] 25)⟩
  have hi_ := blk_alloc (blk_new (w.alloc (.cells #[.slice A0 l0.length c0, .slice A1 l1.length c1] 25)) (.cells #[.int .i64 a] 3)) (.cells #[.slice none 0 0, .slice none 0 0] 25)
  rw [World.size_alloc] at hi_
  have HI_0 := Aside0.mk hi_
  have hz_ := blk_new ((w.alloc (.cells #[.slice A0 l0.length c0, .slice A1 l1.length c1] 25)).alloc (.cells #[.int .i64 a] 3)) (.cells #[.slice none 0 0, .slice none 0 0] 25)
  rw [World.size_alloc, World.size_alloc] at hz_
  have HZ_0 := Aside0.mk hz_
  have B_0 := Aside0.mk ((((Below.refl w.heap.size w).alloc (Nat.le_refl _) (.cells #[.slice A0 l0.length c0, .slice A1 l1.length c1] 25)).alloc (by simp) (.cells #[.int .i64 a] 3)).alloc (by simp; omega) (.cells #[.slice none 0 0, .slice none 0 0] 25))
  clear hi_ hz_
  have HR0 := Aside0.mk hr0
  have HR1 := Aside0.mk hr1
  have HP := Aside0.mk (fun W (q0 : Kd.C Kd.string W A0 l0.length l0) (q1 : Kd.C k73 W A1 l1.length l1) => twin_pair.calls k A0 c0 l0 A1 c1 l1 a n0 t0 k0 n1 t1 k1 er W q0 hc0 q1 hc1 hpair)
  have HN := Aside0.mk (fun W => (twin_newer_calls n0 t0 k0 n1 t1 k1 W).mono (fun e w' (h : _ ∧ _) => (⟨by rw [h.1, hq], h.2⟩ : e = .returned (.int .i64 q) ∧ Below W.heap.size W w')))
  have HQX := Aside0.mk hqx
  have hq0' : 0 ≤ q := by rcases hqx with h | h <;> omega
  have hq1' : q ≤ 1 := by rcases hqx with h | h <;> omega
  have hq0 : 0 ≤ q := by rcases hqx with h | h <;> omega
  have hq2 : q < 2 := by rcases hqx with h | h <;> omega
  clear hqx
  have hne : (er != 0) = true := by rw [bne_iff_ne]; exact he
  clear hr0 hr1 hpair hq he
  go_enter Try.func15, Try.ntmps15
  go_wp2_with (first | (go_at_call 28; (refine (HP.out _ (Kd.C_below HR0.out B_0.out) (Kd.C_below HR1.out B_0.out)).mono ?_); rintro e w1 ⟨rfl, hb⟩; have HD_1 := Aside0.mk (blk_below HD_0.out hb); have HI_1 := Aside0.mk (blk_below HI_0.out hb); have HZ_1 := Aside0.mk (blk_below HZ_0.out hb); have B_1 := Aside0.mk (B_0.out.trans (hb.mono B_0.out.size)); clear hb) | ((with_reducible refine gate_store (t := 62) (p := 11) rfl ?_); refine store_event (t := 62) (p := 11) (w1 := (w1.alloc (.cells blk0 62)).setCells w1.heap.size 0 (blkT n0 t0 k0 n1 t1 k1).toList) rfl rfl rfl ?hr ?_; (case hr => (unfold execOp; simp only [Act.eval, Sem.run_bind, Sem.run_pure, Result.andThen_ok]; show ((Sem.run Try.prog (Instr.storeAt 62 (.pointer (some ⟨w1.heap.size, 0, none⟩)) (.agg (blkT n0 t0 k0 n1 t1 k1))) (w1.alloc (.cells blk0 62))).andThen _) = _; rw [(store_twin (blk_new w1 (.cells blk0 62)) rfl n0 t0 k0 n1 t1 k1).1]; try rfl)); intro w2 hw_; have HS := Aside0.mk (show Below w1.heap.size w1 w2 by rw [hw_]; exact below_cells ((Below.refl _ _).alloc (Nat.le_refl _) _) (Nat.le_refl _) _); have HL_2 := Aside0.mk (hw_ ▸ (store_twin (blk_new w1 (.cells blk0 62)) rfl n0 t0 k0 n1 t1 k1).2 : w2.heap[w1.heap.size]? = some (.cells (blkT n0 t0 k0 n1 t1 k1) 62 (0, 0))); have HD_2 := Aside0.mk (blk_below HD_1.out HS.out); have HI_2 := Aside0.mk (blk_below HI_1.out HS.out); have HZ_2 := Aside0.mk (blk_below HZ_1.out HS.out); have B_2 := Aside0.mk (B_1.out.trans (HS.out.mono B_1.out.size)); clear hw_ HS; have c0 := blk_cell HL_2.out 0; have c1 := blk_cell HL_2.out 1; have c2 := blk_cell HL_2.out 2; have c3 := blk_cell HL_2.out 3; have c4 := blk_cell HL_2.out 4; have c5 := blk_cell HL_2.out 5; simp only [blkT, List.getElem?_toArray, List.getElem?_cons_zero, List.getElem?_cons_succ] at c0 c1 c2 c3 c4 c5) | (go_at_call 29; (refine (HN.out _).mono ?_); rintro e w3 ⟨rfl, hb⟩; have HD_3 := Aside0.mk (blk_below HD_2.out hb); have HI_3 := Aside0.mk (blk_below HI_2.out hb); have HZ_3 := Aside0.mk (blk_below HZ_2.out hb); have HL_3 := Aside0.mk (blk_below HL_2.out hb); have B_3 := Aside0.mk (B_2.out.trans (hb.mono B_2.out.size)); clear hb; obtain ⟨d0, d1, d2⟩ := pick3 HQX.out HL_3.out; have HD_3a := Aside0.mk (blk_alloc HD_3.out (.cells #[.int .i64 xn, .string xt, .bool xk] 61)); have HI_3a := Aside0.mk (blk_alloc HI_3.out (.cells #[.int .i64 xn, .string xt, .bool xk] 61)); have HZ_3a := Aside0.mk (blk_alloc HZ_3.out (.cells #[.int .i64 xn, .string xt, .bool xk] 61)); have HL_3a := Aside0.mk (blk_alloc HL_3.out (.cells #[.int .i64 xn, .string xt, .bool xk] 61)); have B_3a := Aside0.mk (B_3.out.alloc B_3.out.size (.cells #[.int .i64 xn, .string xt, .bool xk] 61)); have HX_3a := Aside0.mk (show (w3.alloc (.cells #[.int .i64 xn, .string xt, .bool xk] 61)).heap[w3.heap.size]? = _ from blk_new (w3) (.cells #[.int .i64 xn, .string xt, .bool xk] 61)); have z0 := blk_cell HZ_3a.out 0; have z1 := blk_cell HZ_3a.out 1; have fz0 := blk_frozen HZ_3a.out 0; have fz1 := blk_frozen HZ_3a.out 1; simp only [List.getElem?_toArray, List.getElem?_cons_zero, List.getElem?_cons_succ] at z0 z1; clear c0 c1 c2 c3 c4 c5))
  have HZ_e := Aside0.mk (blk_set (blk_set HZ_3a.out 0 (.slice none 0 0)) 1 (.slice none 0 0))
  have z0 := blk_cell HZ_e.out 0
  have z1 := blk_cell HZ_e.out 1
  refine bodyPost_ret (v := .tuple #[.agg #[.slice none 0 0, .slice none 0 0], .bool false, .int .i64 er]) ?_ rfl ⟨_, _, rfl, Kd.R_nil _ _ _ _ _, Kd.R_nil _ _ _ _ _, (B_3a.out.setCell (p := ⟨w.heap.size + 1 + 1, 0, none⟩) (by show w.heap.size ≤ w.heap.size + 1 + 1; omega) _).setCell (p := ⟨w.heap.size + 1 + 1, 1, none⟩) (by show w.heap.size ≤ w.heap.size + 1 + 1; omega) _⟩
  simp [results, Try.results15, go_sem, z0, z1]
set_option maxHeartbeats 16000000 in
set_option maxRecDepth 100000 in
theorem twin_Stop_Bs (k : Nat) (A0 : Option Addr) (c0 : Nat) (l0 : List ByteArray) (A1 : Option Addr) (c1 : Nat) (l1 : List S73) (a : Int) (s : ByteArray) (deeds : Int) (n0 : Int) (t0 : ByteArray) (k0 : Bool) (n1 : Int) (t1 : ByteArray) (k1 : Bool) (er : Int) (q xn : Int) (xt : ByteArray) (xk : Bool) (hq : newV n0 k0 n1 k1 = q) (hqx : q = 0 ∧ xn = n0 ∧ xt = t0 ∧ xk = k0 ∨ q = 1 ∧ xn = n1 ∧ xt = t1 ∧ xk = k1) (w : World) (hr0 : Kd.C Kd.string w A0 l0.length l0) (hc0 : l0.length ≤ c0) (hr1 : Kd.C k73 w A1 l1.length l1) (hc1 : l1.length ≤ c1) (hpair : twin_pair.f k l0 l1 a = some (n0, t0, k0, n1, t1, k1, er)) (he : er = 0) (hs : 200 < s.size) :
    Calls Try.prog 15 #[.agg #[.slice A0 l0.length c0, .slice A1 l1.length c1], .int .i64 a, .string s, .int .i64 deeds] w (StopPost w [] [] false 2) := by
  subst he
  have HD_0 : Aside0 ((((w.alloc (.cells #[.slice A0 l0.length c0, .slice A1 l1.length c1] 25)).alloc (.cells #[.int .i64 a] 3)).alloc (.cells #[.slice none 0 0, .slice none 0 0] 25)).heap[w.heap.size]? = some (.cells #[.slice A0 l0.length c0, .slice A1 l1.length c1] 25 (0, 0))) := ⟨blk_alloc (blk_alloc (blk_new w (.cells #[.slice A0 l0.length c0, .slice A1 l1.length c1] 25)) (.cells #[.int .i64 a] 3)) (.cells #[.slice none 0 0, .slice none 0 0] 25)⟩
  have hi_ := blk_alloc (blk_new (w.alloc (.cells #[.slice A0 l0.length c0, .slice A1 l1.length c1] 25)) (.cells #[.int .i64 a] 3)) (.cells #[.slice none 0 0, .slice none 0 0] 25)
  rw [World.size_alloc] at hi_
  have HI_0 := Aside0.mk hi_
  have hz_ := blk_new ((w.alloc (.cells #[.slice A0 l0.length c0, .slice A1 l1.length c1] 25)).alloc (.cells #[.int .i64 a] 3)) (.cells #[.slice none 0 0, .slice none 0 0] 25)
  rw [World.size_alloc, World.size_alloc] at hz_
  have HZ_0 := Aside0.mk hz_
  have B_0 := Aside0.mk ((((Below.refl w.heap.size w).alloc (Nat.le_refl _) (.cells #[.slice A0 l0.length c0, .slice A1 l1.length c1] 25)).alloc (by simp) (.cells #[.int .i64 a] 3)).alloc (by simp; omega) (.cells #[.slice none 0 0, .slice none 0 0] 25))
  clear hi_ hz_
  have HR0 := Aside0.mk hr0
  have HR1 := Aside0.mk hr1
  have HP := Aside0.mk (fun W (q0 : Kd.C Kd.string W A0 l0.length l0) (q1 : Kd.C k73 W A1 l1.length l1) => twin_pair.calls k A0 c0 l0 A1 c1 l1 a n0 t0 k0 n1 t1 k1 0 W q0 hc0 q1 hc1 hpair)
  have HN := Aside0.mk (fun W => (twin_newer_calls n0 t0 k0 n1 t1 k1 W).mono (fun e w' (h : _ ∧ _) => (⟨by rw [h.1, hq], h.2⟩ : e = .returned (.int .i64 q) ∧ Below W.heap.size W w')))
  have HQX := Aside0.mk hqx
  have hq0' : 0 ≤ q := by rcases hqx with h | h <;> omega
  have hq1' : q ≤ 1 := by rcases hqx with h | h <;> omega
  have hq0 : 0 ≤ q := by rcases hqx with h | h <;> omega
  have hq2 : q < 2 := by rcases hqx with h | h <;> omega
  clear hqx
  have hsb : decide ((s.size : Int) > 200) = true := decide_eq_true (by omega)
  have hsc : decide (200 < s.size) = true := decide_eq_true hs
  clear hr0 hr1 hpair hq hs
  go_enter Try.func15, Try.ntmps15
  go_wp2_with (first | (go_at_call 28; (refine (HP.out _ (Kd.C_below HR0.out B_0.out) (Kd.C_below HR1.out B_0.out)).mono ?_); rintro e w1 ⟨rfl, hb⟩; have HD_1 := Aside0.mk (blk_below HD_0.out hb); have HI_1 := Aside0.mk (blk_below HI_0.out hb); have HZ_1 := Aside0.mk (blk_below HZ_0.out hb); have B_1 := Aside0.mk (B_0.out.trans (hb.mono B_0.out.size)); clear hb) | ((with_reducible refine gate_store (t := 62) (p := 11) rfl ?_); refine store_event (t := 62) (p := 11) (w1 := (w1.alloc (.cells blk0 62)).setCells w1.heap.size 0 (blkT n0 t0 k0 n1 t1 k1).toList) rfl rfl rfl ?hr ?_; (case hr => (unfold execOp; simp only [Act.eval, Sem.run_bind, Sem.run_pure, Result.andThen_ok]; show ((Sem.run Try.prog (Instr.storeAt 62 (.pointer (some ⟨w1.heap.size, 0, none⟩)) (.agg (blkT n0 t0 k0 n1 t1 k1))) (w1.alloc (.cells blk0 62))).andThen _) = _; rw [(store_twin (blk_new w1 (.cells blk0 62)) rfl n0 t0 k0 n1 t1 k1).1]; try rfl)); intro w2 hw_; have HS := Aside0.mk (show Below w1.heap.size w1 w2 by rw [hw_]; exact below_cells ((Below.refl _ _).alloc (Nat.le_refl _) _) (Nat.le_refl _) _); have HL_2 := Aside0.mk (hw_ ▸ (store_twin (blk_new w1 (.cells blk0 62)) rfl n0 t0 k0 n1 t1 k1).2 : w2.heap[w1.heap.size]? = some (.cells (blkT n0 t0 k0 n1 t1 k1) 62 (0, 0))); have HD_2 := Aside0.mk (blk_below HD_1.out HS.out); have HI_2 := Aside0.mk (blk_below HI_1.out HS.out); have HZ_2 := Aside0.mk (blk_below HZ_1.out HS.out); have B_2 := Aside0.mk (B_1.out.trans (HS.out.mono B_1.out.size)); clear hw_ HS; have c0 := blk_cell HL_2.out 0; have c1 := blk_cell HL_2.out 1; have c2 := blk_cell HL_2.out 2; have c3 := blk_cell HL_2.out 3; have c4 := blk_cell HL_2.out 4; have c5 := blk_cell HL_2.out 5; simp only [blkT, List.getElem?_toArray, List.getElem?_cons_zero, List.getElem?_cons_succ] at c0 c1 c2 c3 c4 c5) | (go_at_call 29; (refine (HN.out _).mono ?_); rintro e w3 ⟨rfl, hb⟩; have HD_3 := Aside0.mk (blk_below HD_2.out hb); have HI_3 := Aside0.mk (blk_below HI_2.out hb); have HZ_3 := Aside0.mk (blk_below HZ_2.out hb); have HL_3 := Aside0.mk (blk_below HL_2.out hb); have B_3 := Aside0.mk (B_2.out.trans (hb.mono B_2.out.size)); clear hb; obtain ⟨d0, d1, d2⟩ := pick3 HQX.out HL_3.out; have HD_3a := Aside0.mk (blk_alloc HD_3.out (.cells #[.int .i64 xn, .string xt, .bool xk] 61)); have HI_3a := Aside0.mk (blk_alloc HI_3.out (.cells #[.int .i64 xn, .string xt, .bool xk] 61)); have HZ_3a := Aside0.mk (blk_alloc HZ_3.out (.cells #[.int .i64 xn, .string xt, .bool xk] 61)); have HL_3a := Aside0.mk (blk_alloc HL_3.out (.cells #[.int .i64 xn, .string xt, .bool xk] 61)); have B_3a := Aside0.mk (B_3.out.alloc B_3.out.size (.cells #[.int .i64 xn, .string xt, .bool xk] 61)); have HX_3a := Aside0.mk (show (w3.alloc (.cells #[.int .i64 xn, .string xt, .bool xk] 61)).heap[w3.heap.size]? = _ from blk_new (w3) (.cells #[.int .i64 xn, .string xt, .bool xk] 61)); have z0 := blk_cell HZ_3a.out 0; have z1 := blk_cell HZ_3a.out 1; have fz0 := blk_frozen HZ_3a.out 0; have fz1 := blk_frozen HZ_3a.out 1; simp only [List.getElem?_toArray, List.getElem?_cons_zero, List.getElem?_cons_succ] at z0 z1; clear c0 c1 c2 c3 c4 c5))
  have HZ_e := Aside0.mk (blk_set (blk_set HZ_3a.out 0 (.slice none 0 0)) 1 (.slice none 0 0))
  have z0 := blk_cell HZ_e.out 0
  have z1 := blk_cell HZ_e.out 1
  refine bodyPost_ret (v := .tuple #[.agg #[.slice none 0 0, .slice none 0 0], .bool false, .int .i64 2]) ?_ rfl ⟨_, _, rfl, Kd.R_nil _ _ _ _ _, Kd.R_nil _ _ _ _ _, (B_3a.out.setCell (p := ⟨w.heap.size + 1 + 1, 0, none⟩) (by show w.heap.size ≤ w.heap.size + 1 + 1; omega) _).setCell (p := ⟨w.heap.size + 1 + 1, 1, none⟩) (by show w.heap.size ≤ w.heap.size + 1 + 1; omega) _⟩
  simp [results, Try.results15, go_sem, z0, z1]
set_option maxHeartbeats 16000000 in
set_option maxRecDepth 100000 in
theorem twin_Stop_Bx (k : Nat) (A0 : Option Addr) (c0 : Nat) (l0 : List ByteArray) (A1 : Option Addr) (c1 : Nat) (l1 : List S73) (a : Int) (s : ByteArray) (deeds : Int) (n0 : Int) (t0 : ByteArray) (k0 : Bool) (n1 : Int) (t1 : ByteArray) (k1 : Bool) (er : Int) (q xn : Int) (xt : ByteArray) (xk : Bool) (hq : newV n0 k0 n1 k1 = q) (hqx : q = 0 ∧ xn = n0 ∧ xt = t0 ∧ xk = k0 ∨ q = 1 ∧ xn = n1 ∧ xt = t1 ∧ xk = k1) (w : World) (hr0 : Kd.C Kd.string w A0 l0.length l0) (hc0 : l0.length ≤ c0) (hr1 : Kd.C k73 w A1 l1.length l1) (hc1 : l1.length ≤ c1) (hpair : twin_pair.f k l0 l1 a = some (n0, t0, k0, n1, t1, k1, er)) (he : er = 0) (hs : s.size ≤ 200) (hx : 1000000000 ≤ xn) :
    Calls Try.prog 15 #[.agg #[.slice A0 l0.length c0, .slice A1 l1.length c1], .int .i64 a, .string s, .int .i64 deeds] w (StopPost w [] [] false 2) := by
  subst he
  have HD_0 : Aside0 ((((w.alloc (.cells #[.slice A0 l0.length c0, .slice A1 l1.length c1] 25)).alloc (.cells #[.int .i64 a] 3)).alloc (.cells #[.slice none 0 0, .slice none 0 0] 25)).heap[w.heap.size]? = some (.cells #[.slice A0 l0.length c0, .slice A1 l1.length c1] 25 (0, 0))) := ⟨blk_alloc (blk_alloc (blk_new w (.cells #[.slice A0 l0.length c0, .slice A1 l1.length c1] 25)) (.cells #[.int .i64 a] 3)) (.cells #[.slice none 0 0, .slice none 0 0] 25)⟩
  have hi_ := blk_alloc (blk_new (w.alloc (.cells #[.slice A0 l0.length c0, .slice A1 l1.length c1] 25)) (.cells #[.int .i64 a] 3)) (.cells #[.slice none 0 0, .slice none 0 0] 25)
  rw [World.size_alloc] at hi_
  have HI_0 := Aside0.mk hi_
  have hz_ := blk_new ((w.alloc (.cells #[.slice A0 l0.length c0, .slice A1 l1.length c1] 25)).alloc (.cells #[.int .i64 a] 3)) (.cells #[.slice none 0 0, .slice none 0 0] 25)
  rw [World.size_alloc, World.size_alloc] at hz_
  have HZ_0 := Aside0.mk hz_
  have B_0 := Aside0.mk ((((Below.refl w.heap.size w).alloc (Nat.le_refl _) (.cells #[.slice A0 l0.length c0, .slice A1 l1.length c1] 25)).alloc (by simp) (.cells #[.int .i64 a] 3)).alloc (by simp; omega) (.cells #[.slice none 0 0, .slice none 0 0] 25))
  clear hi_ hz_
  have HR0 := Aside0.mk hr0
  have HR1 := Aside0.mk hr1
  have HP := Aside0.mk (fun W (q0 : Kd.C Kd.string W A0 l0.length l0) (q1 : Kd.C k73 W A1 l1.length l1) => twin_pair.calls k A0 c0 l0 A1 c1 l1 a n0 t0 k0 n1 t1 k1 0 W q0 hc0 q1 hc1 hpair)
  have HN := Aside0.mk (fun W => (twin_newer_calls n0 t0 k0 n1 t1 k1 W).mono (fun e w' (h : _ ∧ _) => (⟨by rw [h.1, hq], h.2⟩ : e = .returned (.int .i64 q) ∧ Below W.heap.size W w')))
  have HQX := Aside0.mk hqx
  have hq0' : 0 ≤ q := by rcases hqx with h | h <;> omega
  have hq1' : q ≤ 1 := by rcases hqx with h | h <;> omega
  have hq0 : 0 ≤ q := by rcases hqx with h | h <;> omega
  have hq2 : q < 2 := by rcases hqx with h | h <;> omega
  clear hqx
  have hsi : decide ((200 : Int) < (s.size : Int)) = false := decide_eq_false (by omega)
  have hsc : decide (200 < s.size) = false := decide_eq_false (by omega)
  have hxb : decide (1000000000 ≤ xn) = true := decide_eq_true hx
  clear hr0 hr1 hpair hq hs
  go_enter Try.func15, Try.ntmps15
  go_wp2_with (first | (go_at_call 28; (refine (HP.out _ (Kd.C_below HR0.out B_0.out) (Kd.C_below HR1.out B_0.out)).mono ?_); rintro e w1 ⟨rfl, hb⟩; have HD_1 := Aside0.mk (blk_below HD_0.out hb); have HI_1 := Aside0.mk (blk_below HI_0.out hb); have HZ_1 := Aside0.mk (blk_below HZ_0.out hb); have B_1 := Aside0.mk (B_0.out.trans (hb.mono B_0.out.size)); clear hb) | ((with_reducible refine gate_store (t := 62) (p := 11) rfl ?_); refine store_event (t := 62) (p := 11) (w1 := (w1.alloc (.cells blk0 62)).setCells w1.heap.size 0 (blkT n0 t0 k0 n1 t1 k1).toList) rfl rfl rfl ?hr ?_; (case hr => (unfold execOp; simp only [Act.eval, Sem.run_bind, Sem.run_pure, Result.andThen_ok]; show ((Sem.run Try.prog (Instr.storeAt 62 (.pointer (some ⟨w1.heap.size, 0, none⟩)) (.agg (blkT n0 t0 k0 n1 t1 k1))) (w1.alloc (.cells blk0 62))).andThen _) = _; rw [(store_twin (blk_new w1 (.cells blk0 62)) rfl n0 t0 k0 n1 t1 k1).1]; try rfl)); intro w2 hw_; have HS := Aside0.mk (show Below w1.heap.size w1 w2 by rw [hw_]; exact below_cells ((Below.refl _ _).alloc (Nat.le_refl _) _) (Nat.le_refl _) _); have HL_2 := Aside0.mk (hw_ ▸ (store_twin (blk_new w1 (.cells blk0 62)) rfl n0 t0 k0 n1 t1 k1).2 : w2.heap[w1.heap.size]? = some (.cells (blkT n0 t0 k0 n1 t1 k1) 62 (0, 0))); have HD_2 := Aside0.mk (blk_below HD_1.out HS.out); have HI_2 := Aside0.mk (blk_below HI_1.out HS.out); have HZ_2 := Aside0.mk (blk_below HZ_1.out HS.out); have B_2 := Aside0.mk (B_1.out.trans (HS.out.mono B_1.out.size)); clear hw_ HS; have c0 := blk_cell HL_2.out 0; have c1 := blk_cell HL_2.out 1; have c2 := blk_cell HL_2.out 2; have c3 := blk_cell HL_2.out 3; have c4 := blk_cell HL_2.out 4; have c5 := blk_cell HL_2.out 5; simp only [blkT, List.getElem?_toArray, List.getElem?_cons_zero, List.getElem?_cons_succ] at c0 c1 c2 c3 c4 c5) | (go_at_call 29; (refine (HN.out _).mono ?_); rintro e w3 ⟨rfl, hb⟩; have HD_3 := Aside0.mk (blk_below HD_2.out hb); have HI_3 := Aside0.mk (blk_below HI_2.out hb); have HZ_3 := Aside0.mk (blk_below HZ_2.out hb); have HL_3 := Aside0.mk (blk_below HL_2.out hb); have B_3 := Aside0.mk (B_2.out.trans (hb.mono B_2.out.size)); clear hb; obtain ⟨d0, d1, d2⟩ := pick3 HQX.out HL_3.out; have HD_3a := Aside0.mk (blk_alloc HD_3.out (.cells #[.int .i64 xn, .string xt, .bool xk] 61)); have HI_3a := Aside0.mk (blk_alloc HI_3.out (.cells #[.int .i64 xn, .string xt, .bool xk] 61)); have HZ_3a := Aside0.mk (blk_alloc HZ_3.out (.cells #[.int .i64 xn, .string xt, .bool xk] 61)); have HL_3a := Aside0.mk (blk_alloc HL_3.out (.cells #[.int .i64 xn, .string xt, .bool xk] 61)); have B_3a := Aside0.mk (B_3.out.alloc B_3.out.size (.cells #[.int .i64 xn, .string xt, .bool xk] 61)); have HX_3a := Aside0.mk (show (w3.alloc (.cells #[.int .i64 xn, .string xt, .bool xk] 61)).heap[w3.heap.size]? = _ from blk_new (w3) (.cells #[.int .i64 xn, .string xt, .bool xk] 61)); have z0 := blk_cell HZ_3a.out 0; have z1 := blk_cell HZ_3a.out 1; have fz0 := blk_frozen HZ_3a.out 0; have fz1 := blk_frozen HZ_3a.out 1; simp only [List.getElem?_toArray, List.getElem?_cons_zero, List.getElem?_cons_succ] at z0 z1; clear c0 c1 c2 c3 c4 c5))
  have HZ_e := Aside0.mk (blk_set (blk_set HZ_3a.out 0 (.slice none 0 0)) 1 (.slice none 0 0))
  have z0 := blk_cell HZ_e.out 0
  have z1 := blk_cell HZ_e.out 1
  refine bodyPost_ret (v := .tuple #[.agg #[.slice none 0 0, .slice none 0 0], .bool false, .int .i64 2]) ?_ rfl ⟨_, _, rfl, Kd.R_nil _ _ _ _ _, Kd.R_nil _ _ _ _ _, (B_3a.out.setCell (p := ⟨w.heap.size + 1 + 1, 0, none⟩) (by show w.heap.size ≤ w.heap.size + 1 + 1; omega) _).setCell (p := ⟨w.heap.size + 1 + 1, 1, none⟩) (by show w.heap.size ≤ w.heap.size + 1 + 1; omega) _⟩
  simp [results, Try.results15, go_sem, z0, z1]
end Go.Proofs.Ytkgcaheddhfpgaa.P
/-
  A call through a function value that is known, in a region that draws its order: it returns, or it panics.
-/
namespace Go.Proofs.Ytkgcaheddhfpgaa.CallV
open Go.Proofs Go.Proofs.YtkgcaheddhfpgaaW.PrintWords Go.Proofs.YtkgcaheddhfpgaaW.PrintLast
variable {P : Program} {ops : Array Oper} {Q : Exit → Act → World → Prop}

/-- The operation's run: the function value is entered. -/
theorem runV_ {oi : Oper} {a : Act} {w : World} {f : FuncId} {fn : Func} {t : Operand} {xs : Array Operand} {ts : Array TypeId} {first cap : Array Value} (hf : P.funcs[f]? = some fn) (hname : (fn.name == "runtime.NumGoroutine") = false) (hb : fn.body.isSome = true) (args : Array Value)
    (hop : oi.op = .call { callee := .value t, args := xs, argTypes := ts }) (ht : a.eval t = .func (.func f) first cap) (hargs : first ++ xs.map a.eval ++ cap = args) :
    (execOp a.eval oi).run P w = .ok (.enter f args) w := by
  have he := enters_ hf hname hb args w
  unfold execOp
  simp [hop, resolve, ht, Deferred.ofValue, invoke, hargs, he]
/-- It returns. -/
theorem goesV_ {oi : Oper} {N : Option Tmp} {a : Act} {w : World} {K : Act → World → Prop} {f : FuncId} {fn : Func} {t : Operand} {xs : Array Operand} {ts : Array TypeId} {first cap : Array Value} (hf : P.funcs[f]? = some fn) (hname : (fn.name == "runtime.NumGoroutine") = false) (hb : fn.body.isSome = true) (args : Array Value)
    (hw : Region.wanted oi (yielded ops a.tmps) = true) (hN : oi.dst = N) (hop : oi.op = .call { callee := .value t, args := xs, argTypes := ts }) (ht : a.eval t = .func (.func f) first cap) (hargs : first ++ xs.map a.eval ++ cap = args)
    (h : Calls P f args w fun e w' => ∃ v, e = .returned v ∧ K (a.put N v) w') : if Region.wanted oi (yielded ops a.tmps) = true then Oper.wp P oi a w K Q else K (a.put N undef) w :=
  call_ f args hw hN (runV_ hf hname hb args hop ht hargs) h
end Go.Proofs.Ytkgcaheddhfpgaa.CallV
/-
  twin.Stop, by hand: a write that is refused.
-/
namespace Go.Proofs.Ytkgcaheddhfpgaa.P
open Go.RowKit Go.Proofs.CodecPlain Go.Proofs.YtkgcaheddhfpgaaW.PrintWords Go.Proofs.YtkgcaheddhfpgaaW.PrintLast

attribute [local go_sem] zero_twin
set_option maxHeartbeats 16000000 in
set_option maxRecDepth 100000 in
theorem twin_Stop_C (k : Nat) (A0 : Option Addr) (c0 : Nat) (l0 : List ByteArray) (A1 : Option Addr) (c1 : Nat) (l1 : List S73) (a : Int) (s : ByteArray) (deeds : Int) (n0 : Int) (t0 : ByteArray) (k0 : Bool) (n1 : Int) (t1 : ByteArray) (k1 : Bool) (er : Int) (q xn : Int) (xt : ByteArray) (xk : Bool) (hq : newV n0 k0 n1 k1 = q) (hqx : q = 0 ∧ xn = n0 ∧ xt = t0 ∧ xk = k0 ∨ q = 1 ∧ xn = n1 ∧ xt = t1 ∧ xk = k1) (w : World) (hr0 : Kd.C Kd.string w A0 l0.length l0) (hc0 : l0.length ≤ c0) (hr1 : Kd.C k73 w A1 l1.length l1) (hc1 : l1.length ≤ c1) (hpair : twin_pair.f k l0 l1 a = some (n0, t0, k0, n1, t1, k1, er)) (he : er = 0) (hs : s.size ≤ 200) (hx0 : 0 ≤ xn) (hx1 : xn < 1000000000) (f : ByteArray) (hf : f = frameOf (numStr (xn + 1) ++ s)) (ha0 : 0 ≤ a) (ha1 : a ≤ 1000) (b1 : List ByteArray) (u1 : List S73) (e1 : Int) (hwr : writeV l0 l1 (a + 1 - q) f = (b1, u1, e1)) (hne : e1 ≠ 0) :
    Calls Try.prog 15 #[.agg #[.slice A0 l0.length c0, .slice A1 l1.length c1], .int .i64 a, .string s, .int .i64 deeds] w (StopPost w [] [] false e1) := by
  subst he
  have HD_0 : Aside0 ((((w.alloc (.cells #[.slice A0 l0.length c0, .slice A1 l1.length c1] 25)).alloc (.cells #[.int .i64 a] 3)).alloc (.cells #[.slice none 0 0, .slice none 0 0] 25)).heap[w.heap.size]? = some (.cells #[.slice A0 l0.length c0, .slice A1 l1.length c1] 25 (0, 0))) := ⟨blk_alloc (blk_alloc (blk_new w (.cells #[.slice A0 l0.length c0, .slice A1 l1.length c1] 25)) (.cells #[.int .i64 a] 3)) (.cells #[.slice none 0 0, .slice none 0 0] 25)⟩
  have hi_ := blk_alloc (blk_new (w.alloc (.cells #[.slice A0 l0.length c0, .slice A1 l1.length c1] 25)) (.cells #[.int .i64 a] 3)) (.cells #[.slice none 0 0, .slice none 0 0] 25)
  rw [World.size_alloc] at hi_
  have HI_0 := Aside0.mk hi_
  have hz_ := blk_new ((w.alloc (.cells #[.slice A0 l0.length c0, .slice A1 l1.length c1] 25)).alloc (.cells #[.int .i64 a] 3)) (.cells #[.slice none 0 0, .slice none 0 0] 25)
  rw [World.size_alloc, World.size_alloc] at hz_
  have HZ_0 := Aside0.mk hz_
  have B_0 := Aside0.mk ((((Below.refl w.heap.size w).alloc (Nat.le_refl _) (.cells #[.slice A0 l0.length c0, .slice A1 l1.length c1] 25)).alloc (by simp) (.cells #[.int .i64 a] 3)).alloc (by simp; omega) (.cells #[.slice none 0 0, .slice none 0 0] 25))
  clear hi_ hz_
  have HR0 := Aside0.mk hr0
  have HR1 := Aside0.mk hr1
  have HP := Aside0.mk (fun W (q0 : Kd.C Kd.string W A0 l0.length l0) (q1 : Kd.C k73 W A1 l1.length l1) => twin_pair.calls k A0 c0 l0 A1 c1 l1 a n0 t0 k0 n1 t1 k1 0 W q0 hc0 q1 hc1 hpair)
  have HN := Aside0.mk (fun W => (twin_newer_calls n0 t0 k0 n1 t1 k1 W).mono (fun e w' (h : _ ∧ _) => (⟨by rw [h.1, hq], h.2⟩ : e = .returned (.int .i64 q) ∧ Below W.heap.size W w')))
  have HQX := Aside0.mk hqx
  have hq0' : 0 ≤ q := by rcases hqx with h | h <;> omega
  have hq1' : q ≤ 1 := by rcases hqx with h | h <;> omega
  have hq0 : 0 ≤ q := by rcases hqx with h | h <;> omega
  have hq2 : q < 2 := by rcases hqx with h | h <;> omega
  clear hqx
  have HDeed := Aside0.mk (fun (W : World) (B2 B3 : Nat) (hb : Below w.heap.size w W) hA hL hF => twin_deed_calls A0 c0 l0 A1 c1 l1 a n0 t0 k0 n1 t1 k1 q f b1 u1 e1 (w.heap.size + 1) B2 B3 W (Kd.C_below hr0 hb) hc0 (Kd.C_below hr1 hb) hc1 ha0 ha1 hq0' hq1' hq hwr hA hL hF)
  obtain ⟨ns, hns⟩ : ∃ ns, ns = numStr (xn + 1) := ⟨_, rfl⟩
  have hnz := numStr_size (xn + 1)
  rw [← hns] at hnz
  have HNum := Aside0.mk (fun W => codec_Number.calls (xn + 1) ns 0 W (by unfold codec_Number.f; rw [if_pos (by omega), hns]))
  have HPut := Aside0.mk (fun W => crc_Put.calls (ns ++ s) f 0 W (by rw [put_f, if_pos (by rw [CodecPlain.size_append]; omega), hf, hns]))
  have hcz : ns.size + s.size ≤ 9223372036854775807 := by omega
  have hcz1 := eq_true hcz
  have hcz2 : decide (ns.size + s.size ≤ 9223372036854775807) = true := decide_eq_true hcz
  have hcz3 : (9223372036854775807 < ns.size + s.size) = False := eq_false (Nat.not_lt.2 hcz)
  have hsi : decide ((200 : Int) < (s.size : Int)) = false := decide_eq_false (by omega)
  have hsc : decide (200 < s.size) = false := decide_eq_false (by omega)
  have hxb : decide (1000000000 ≤ xn) = false := decide_eq_false (by omega)
  have hmf : ∀ (fn : Fn) (first cap : Array Value) (w : World), (Instr.makeFunc fn first cap).run Try.prog w = .ok (.func fn first cap) w := fun _ _ _ _ => rfl
  clear hr0 hr1 hpair hq hs hf hns hnz hcz hwr ha0 ha1
  go_enter Try.func15, Try.ntmps15
  go_wp2_with (first | (go_at_call 28; (refine (HP.out _ (Kd.C_below HR0.out B_0.out) (Kd.C_below HR1.out B_0.out)).mono ?_); rintro e w1 ⟨rfl, hb⟩; have HD_1 := Aside0.mk (blk_below HD_0.out hb); have HI_1 := Aside0.mk (blk_below HI_0.out hb); have HZ_1 := Aside0.mk (blk_below HZ_0.out hb); have B_1 := Aside0.mk (B_0.out.trans (hb.mono B_0.out.size)); clear hb) | ((with_reducible refine gate_store (t := 62) (p := 11) rfl ?_); refine store_event (t := 62) (p := 11) (w1 := (w1.alloc (.cells blk0 62)).setCells w1.heap.size 0 (blkT n0 t0 k0 n1 t1 k1).toList) rfl rfl rfl ?hr ?_; (case hr => (unfold execOp; simp only [Act.eval, Sem.run_bind, Sem.run_pure, Result.andThen_ok]; show ((Sem.run Try.prog (Instr.storeAt 62 (.pointer (some ⟨w1.heap.size, 0, none⟩)) (.agg (blkT n0 t0 k0 n1 t1 k1))) (w1.alloc (.cells blk0 62))).andThen _) = _; rw [(store_twin (blk_new w1 (.cells blk0 62)) rfl n0 t0 k0 n1 t1 k1).1]; try rfl)); intro w2 hw_; have HS := Aside0.mk (show Below w1.heap.size w1 w2 by rw [hw_]; exact below_cells ((Below.refl _ _).alloc (Nat.le_refl _) _) (Nat.le_refl _) _); have HL_2 := Aside0.mk (hw_ ▸ (store_twin (blk_new w1 (.cells blk0 62)) rfl n0 t0 k0 n1 t1 k1).2 : w2.heap[w1.heap.size]? = some (.cells (blkT n0 t0 k0 n1 t1 k1) 62 (0, 0))); have HD_2 := Aside0.mk (blk_below HD_1.out HS.out); have HI_2 := Aside0.mk (blk_below HI_1.out HS.out); have HZ_2 := Aside0.mk (blk_below HZ_1.out HS.out); have B_2 := Aside0.mk (B_1.out.trans (HS.out.mono B_1.out.size)); clear hw_ HS; have c0 := blk_cell HL_2.out 0; have c1 := blk_cell HL_2.out 1; have c2 := blk_cell HL_2.out 2; have c3 := blk_cell HL_2.out 3; have c4 := blk_cell HL_2.out 4; have c5 := blk_cell HL_2.out 5; simp only [blkT, List.getElem?_toArray, List.getElem?_cons_zero, List.getElem?_cons_succ] at c0 c1 c2 c3 c4 c5) | (go_at_call 29; (refine (HN.out _).mono ?_); rintro e w3 ⟨rfl, hb⟩; have HD_3 := Aside0.mk (blk_below HD_2.out hb); have HI_3 := Aside0.mk (blk_below HI_2.out hb); have HZ_3 := Aside0.mk (blk_below HZ_2.out hb); have HL_3 := Aside0.mk (blk_below HL_2.out hb); have B_3 := Aside0.mk (B_2.out.trans (hb.mono B_2.out.size)); clear hb; obtain ⟨d0, d1, d2⟩ := pick3 HQX.out HL_3.out; have HD_3a := Aside0.mk (blk_alloc HD_3.out (.cells #[.int .i64 xn, .string xt, .bool xk] 61)); have HI_3a := Aside0.mk (blk_alloc HI_3.out (.cells #[.int .i64 xn, .string xt, .bool xk] 61)); have HZ_3a := Aside0.mk (blk_alloc HZ_3.out (.cells #[.int .i64 xn, .string xt, .bool xk] 61)); have HL_3a := Aside0.mk (blk_alloc HL_3.out (.cells #[.int .i64 xn, .string xt, .bool xk] 61)); have B_3a := Aside0.mk (B_3.out.alloc B_3.out.size (.cells #[.int .i64 xn, .string xt, .bool xk] 61)); have HX_3a := Aside0.mk (show (w3.alloc (.cells #[.int .i64 xn, .string xt, .bool xk] 61)).heap[w3.heap.size]? = _ from blk_new (w3) (.cells #[.int .i64 xn, .string xt, .bool xk] 61)); clear c0 c1 c2 c3 c4 c5) | (go_at_call 30; (refine (HNum.out _).mono ?_); rintro e w4 ⟨rfl, hb⟩; have HD_4 := Aside0.mk (blk_below HD_3a.out hb); have HI_4 := Aside0.mk (blk_below HI_3a.out hb); have HZ_4 := Aside0.mk (blk_below HZ_3a.out hb); have HL_4 := Aside0.mk (blk_below HL_3a.out hb); have HX_4 := Aside0.mk (blk_below HX_3a.out hb); have B_4 := Aside0.mk (B_3a.out.trans (hb.mono B_3a.out.size)); clear hb) | (go_at_call 31; (refine (HPut.out _).mono ?_); rintro e w5 ⟨rfl, hb⟩; have HD_5 := Aside0.mk (blk_below HD_4.out hb); have HI_5 := Aside0.mk (blk_below HI_4.out hb); have HZ_5 := Aside0.mk (blk_below HZ_4.out hb); have HL_5 := Aside0.mk (blk_below HL_4.out hb); have HX_5 := Aside0.mk (blk_below HX_4.out hb); have B_5 := Aside0.mk (B_4.out.trans (hb.mono B_4.out.size)); have HD_5a := Aside0.mk (blk_alloc HD_5.out (.cells #[.string f] 9)); have HI_5a := Aside0.mk (blk_alloc HI_5.out (.cells #[.string f] 9)); have HZ_5a := Aside0.mk (blk_alloc HZ_5.out (.cells #[.string f] 9)); have HL_5a := Aside0.mk (blk_alloc HL_5.out (.cells #[.string f] 9)); have HX_5a := Aside0.mk (blk_alloc HX_5.out (.cells #[.string f] 9)); have B_5a := Aside0.mk (B_5.out.alloc B_5.out.size (.cells #[.string f] 9)); have HF_5a := Aside0.mk (show (w5.alloc (.cells #[.string f] 9)).heap[w5.heap.size]? = _ from blk_new (w5) (.cells #[.string f] 9)); clear hb))
  have HD_5b := Aside0.mk (blk_alloc HD_5a.out (.cells #[.func (.func 32) #[] #[.pointer (some ⟨w.heap.size + 1, 0, none⟩), .pointer (some ⟨w1.heap.size, 0, none⟩), .pointer (some ⟨w5.heap.size, 0, none⟩)], .func (.func 34) #[] #[]] 68))
  have HI_5b := Aside0.mk (blk_alloc HI_5a.out (.cells #[.func (.func 32) #[] #[.pointer (some ⟨w.heap.size + 1, 0, none⟩), .pointer (some ⟨w1.heap.size, 0, none⟩), .pointer (some ⟨w5.heap.size, 0, none⟩)], .func (.func 34) #[] #[]] 68))
  have HZ_5b := Aside0.mk (blk_alloc HZ_5a.out (.cells #[.func (.func 32) #[] #[.pointer (some ⟨w.heap.size + 1, 0, none⟩), .pointer (some ⟨w1.heap.size, 0, none⟩), .pointer (some ⟨w5.heap.size, 0, none⟩)], .func (.func 34) #[] #[]] 68))
  have HL_5b := Aside0.mk (blk_alloc HL_5a.out (.cells #[.func (.func 32) #[] #[.pointer (some ⟨w.heap.size + 1, 0, none⟩), .pointer (some ⟨w1.heap.size, 0, none⟩), .pointer (some ⟨w5.heap.size, 0, none⟩)], .func (.func 34) #[] #[]] 68))
  have HX_5b := Aside0.mk (blk_alloc HX_5a.out (.cells #[.func (.func 32) #[] #[.pointer (some ⟨w.heap.size + 1, 0, none⟩), .pointer (some ⟨w1.heap.size, 0, none⟩), .pointer (some ⟨w5.heap.size, 0, none⟩)], .func (.func 34) #[] #[]] 68))
  have HF_5b := Aside0.mk (blk_alloc HF_5a.out (.cells #[.func (.func 32) #[] #[.pointer (some ⟨w.heap.size + 1, 0, none⟩), .pointer (some ⟨w1.heap.size, 0, none⟩), .pointer (some ⟨w5.heap.size, 0, none⟩)], .func (.func 34) #[] #[]] 68))
  have B_5b := Aside0.mk (B_5a.out.alloc B_5a.out.size (.cells #[.func (.func 32) #[] #[.pointer (some ⟨w.heap.size + 1, 0, none⟩), .pointer (some ⟨w1.heap.size, 0, none⟩), .pointer (some ⟨w5.heap.size, 0, none⟩)], .func (.func 34) #[] #[]] 68))
  have HDO_5b := Aside0.mk (show ((w5.alloc (.cells #[.string f] 9)).alloc (.cells #[.func (.func 32) #[] #[.pointer (some ⟨w.heap.size + 1, 0, none⟩), .pointer (some ⟨w1.heap.size, 0, none⟩), .pointer (some ⟨w5.heap.size, 0, none⟩)], .func (.func 34) #[] #[]] 68)).heap[w5.heap.size + 1]? = some (.cells (#[.func (.func 32) #[] #[.pointer (some ⟨w.heap.size + 1, 0, none⟩), .pointer (some ⟨w1.heap.size, 0, none⟩), .pointer (some ⟨w5.heap.size, 0, none⟩)], .func (.func 34) #[] #[]]) 68 (0, 0)) by have h_ := blk_new ((w5.alloc (.cells #[.string f] 9))) (.cells #[.func (.func 32) #[] #[.pointer (some ⟨w.heap.size + 1, 0, none⟩), .pointer (some ⟨w1.heap.size, 0, none⟩), .pointer (some ⟨w5.heap.size, 0, none⟩)], .func (.func 34) #[] #[]] 68); simp only [World.size_alloc] at h_ ⊢; exact h_)
  have HD_6 := Aside0.mk (blk_drew HD_5b.out)
  have HI_6 := Aside0.mk (blk_drew HI_5b.out)
  have HZ_6 := Aside0.mk (blk_drew HZ_5b.out)
  have HL_6 := Aside0.mk (blk_drew HL_5b.out)
  have HX_6 := Aside0.mk (blk_drew HX_5b.out)
  have HF_6 := Aside0.mk (blk_drew HF_5b.out)
  have HDO_6 := Aside0.mk (blk_drew HDO_5b.out)
  have B_6 := Aside0.mk (below_drew1 B_5b.out)
  refine start_ (n := 11) (S := fun w' => w'.cell? ⟨w5.heap.size + 1, 0, none⟩ = some (.func (.func 32) #[] #[.pointer (some ⟨w.heap.size + 1, 0, none⟩), .pointer (some ⟨w1.heap.size, 0, none⟩), .pointer (some ⟨w5.heap.size, 0, none⟩)]) ∧ w'.cell? ⟨w.heap.size, 0, none⟩ = some (.slice A0 l0.length c0) ∧ w'.cell? ⟨w.heap.size, 1, none⟩ = some (.slice A1 l1.length c1)) (ds := [9]) #[false, false, false, false, false, false, false, false, false, false, false] (by kernel_rfl) rfl rfl ⟨(blk_cell HDO_6.out 0).trans rfl, (blk_cell HD_6.out 0).trans rfl, (blk_cell HD_6.out 1).trans rfl⟩ (fun hHeld => ?_)
  generalize World.drew ((w5.alloc (.cells #[.string f] 9)).alloc (.cells #[.func (.func 32) #[] #[.pointer (some ⟨w.heap.size + 1, 0, none⟩), .pointer (some ⟨w1.heap.size, 0, none⟩), .pointer (some ⟨w5.heap.size, 0, none⟩)], .func (.func 34) #[] #[]] 68)) = w6 at HD_6 HI_6 HZ_6 HL_6 HX_6 HF_6 HDO_6 B_6 hHeld ⊢
  refine pure_ (i := 0) (N := some 66) (v := ?_) (a' := ?_) #[true, false, false, false, false, false, false, false, false, false, false] rfl rfl (by kernel_rfl) (fun _ _ _ h => h) (Or.inl ⟨by rfl, ?_⟩) ?_ ?_
  rotate_left
  · intro w'
    go_simp
    with_reducible rfl
  rotate_left
  · simp only [Act.put, List.setIfInBounds_toArray, List.set_cons_zero, List.set_cons_succ, i64_w, i32_w]
    rfl
  refine pure_ (i := 1) (N := some 67) (v := ?_) (a' := ?_) #[true, true, false, false, false, false, false, false, false, false, false] rfl rfl (by kernel_rfl) (fun _ _ _ h => h) (Or.inl ⟨by rfl, ?_⟩) ?_ ?_
  rotate_left
  · intro w'
    go_simp
    with_reducible rfl
  rotate_left
  · simp only [Act.put, List.setIfInBounds_toArray, List.set_cons_zero, List.set_cons_succ, i64_w, i32_w]
    rfl
  refine take_ (i := 2) (N := some 68) (v := ?_) (a' := ?_) #[true, true, true, false, false, false, false, false, false, false, false] rfl rfl (by kernel_rfl) (fun _ _ _ h => h) (Or.inl ⟨by rfl, ?_⟩) hHeld ?_ ?_
  rotate_left
  · rintro w' ⟨s0, s1, s2⟩
    go_simp
    with_reducible rfl
  rotate_left
  · simp only [Act.put, List.setIfInBounds_toArray, List.set_cons_zero, List.set_cons_succ, i64_w, i32_w]
    rfl
  refine take_ (i := 3) (N := some 69) (v := ?_) (a' := ?_) #[true, true, true, true, false, false, false, false, false, false, false] rfl rfl (by kernel_rfl) (fun _ _ _ h => h) (Or.inl ⟨by rfl, ?_⟩) hHeld ?_ ?_
  rotate_left
  · rintro w' ⟨s0, s1, s2⟩
    go_simp
    with_reducible rfl
  rotate_left
  · simp only [Act.put, List.setIfInBounds_toArray, List.set_cons_zero, List.set_cons_succ, i64_w, i32_w]
    rfl
  refine join_ (σ := Nat × Option Addr × Nat × Option Addr × Nat) 2 #[true, true, true, true, true, true, true, true, true, false, false] (fun s => [(70, .tuple #[.agg #[.slice s.2.1 b1.length s.2.2.1, .slice s.2.2.2.1 u1.length s.2.2.2.2], .int .i64 e1]), (65, .tuple #[.agg #[.slice s.2.1 b1.length s.2.2.1, .slice s.2.2.2.1 u1.length s.2.2.2.2], .int .i64 e1]), (71, .agg #[.slice s.2.1 b1.length s.2.2.1, .slice s.2.2.2.1 u1.length s.2.2.2.2]), (72, .int .i64 e1), (19, .pointer (some ⟨s.1, 0, none⟩))]) (fun s w' => w'.heap[w.heap.size]? = some (.cells (#[.slice A0 l0.length c0, .slice A1 l1.length c1]) 25 (0, 0)) ∧ w'.heap[w.heap.size + 1]? = some (.cells (#[.int .i64 a]) 3 (0, 0)) ∧ w'.heap[w.heap.size + 1 + 1]? = some (.cells (#[.slice none 0 0, .slice none 0 0]) 25 (0, 0)) ∧ w'.heap[w1.heap.size]? = some (.cells (blkT n0 t0 k0 n1 t1 k1) 62 (0, 0)) ∧ w'.heap[w3.heap.size]? = some (.cells (#[.int .i64 xn, .string xt, .bool xk]) 61 (0, 0)) ∧ w'.heap[w5.heap.size]? = some (.cells (#[.string f]) 9 (0, 0)) ∧ w'.heap[w5.heap.size + 1]? = some (.cells (#[.func (.func 32) #[] #[.pointer (some ⟨w.heap.size + 1, 0, none⟩), .pointer (some ⟨w1.heap.size, 0, none⟩), .pointer (some ⟨w5.heap.size, 0, none⟩)], .func (.func 34) #[] #[]]) 68 (0, 0)) ∧ Below w.heap.size w w' ∧ w'.heap[s.1]? = some (.cells #[.slice none 0 0, .slice none 0 0] 25 (0, 0)) ∧ w6.heap.size ≤ s.1) ?_ ?_
  rotate_left
  · intro hCont
    refine two_ (i := 4) (j := 8) (Ni := some 70) (Nj := some 19) #[true, true, true, true, true, false, false, false, false, false, false] #[true, true, true, true, false, false, false, false, true, false, false] rfl rfl rfl rfl (by kernel_rfl) (by decide) (by decide) (fun K hK => ?_) (fun K hK => ?_)
    · skip
      refine Go.Proofs.Ytkgcaheddhfpgaa.CallV.goesV_ (first := #[]) (cap := #[.pointer (some ⟨w.heap.size + 1, 0, none⟩), .pointer (some ⟨w1.heap.size, 0, none⟩), .pointer (some ⟨w5.heap.size, 0, none⟩)]) Try.func32 (by kernel_rfl) rfl #[.agg #[.slice A0 l0.length c0, .slice A1 l1.length c1], .pointer (some ⟨w.heap.size + 1, 0, none⟩), .pointer (some ⟨w1.heap.size, 0, none⟩), .pointer (some ⟨w5.heap.size, 0, none⟩)] (by rfl) rfl rfl rfl (by first | (simp; done) | (simp; rfl)) ?_
      refine (HDeed.out (w6) w1.heap.size w5.heap.size B_6.out HI_6.out HL_6.out HF_6.out).mono ?_
      rintro e w7 ⟨v0, v1, rfl, hR0, hR1, hb⟩
      refine ⟨_, rfl, ?_⟩
      obtain ⟨A4, c4, rfl⟩ := Kd.R_slice hR0
      obtain ⟨A5, c5, rfl⟩ := Kd.R_slice hR1
      clear hR0 hR1
      have HD_7 := Aside0.mk (blk_below HD_6.out hb)
      have HI_7 := Aside0.mk (blk_below HI_6.out hb)
      have HZ_7 := Aside0.mk (blk_below HZ_6.out hb)
      have HL_7 := Aside0.mk (blk_below HL_6.out hb)
      have HX_7 := Aside0.mk (blk_below HX_6.out hb)
      have HF_7 := Aside0.mk (blk_below HF_6.out hb)
      have HDO_7 := Aside0.mk (blk_below HDO_6.out hb)
      have B_7 := Aside0.mk (B_6.out.trans (hb.mono B_6.out.size))
      have HS7 := Aside0.mk hb.size
      clear hb
      refine hK.out _ _ ⟨(blk_cell HDO_7.out 0).trans rfl, (blk_cell HD_7.out 0).trans rfl, (blk_cell HD_7.out 1).trans rfl⟩ (fun hHeld => ?_)
      clear hK K
      refine norm_ (a' := ?_) ?_ ?_
      rotate_left
      · show Act.put _ (some 70) _ = _
        simp only [Act.put, List.setIfInBounds_toArray, List.set_cons_zero, List.set_cons_succ, i64_w, i32_w]
        rfl
      refine pure_ (i := 5) (N := some 65) (v := ?_) (a' := ?_) #[true, true, true, true, true, true, false, false, false, false, false] rfl rfl (by kernel_rfl) (fun _ _ _ h => h) (Or.inl ⟨by rfl, ?_⟩) ?_ ?_
      rotate_left
      · intro w'
        go_simp
        with_reducible rfl
      rotate_left
      · simp only [Act.put, List.setIfInBounds_toArray, List.set_cons_zero, List.set_cons_succ, i64_w, i32_w]
        rfl
      refine pure_ (i := 6) (N := some 71) (v := ?_) (a' := ?_) #[true, true, true, true, true, true, true, false, false, false, false] rfl rfl (by kernel_rfl) (fun _ _ _ h => h) (Or.inl ⟨by rfl, ?_⟩) ?_ ?_
      rotate_left
      · intro w'
        go_simp
        with_reducible rfl
      rotate_left
      · simp only [Act.put, List.setIfInBounds_toArray, List.set_cons_zero, List.set_cons_succ, i64_w, i32_w]
        rfl
      refine pure_ (i := 7) (N := some 72) (v := ?_) (a' := ?_) #[true, true, true, true, true, true, true, true, false, false, false] rfl rfl (by kernel_rfl) (fun _ _ _ h => h) (Or.inl ⟨by rfl, ?_⟩) ?_ ?_
      rotate_left
      · intro w'
        go_simp
        with_reducible rfl
      rotate_left
      · simp only [Act.put, List.setIfInBounds_toArray, List.set_cons_zero, List.set_cons_succ, i64_w, i32_w]
        rfl
      refine one_ (i := 8) (N := some 19) #[true, true, true, true, true, true, true, true, true, false, false] rfl rfl (by kernel_rfl) (by decide) (fun K hK => ?_)
      refine value_ (w1 := ?_) (v := ?_) (by rfl) rfl ?_ ?_
      rotate_left 2
      · go_simp
        constructor
        · rfl
        · rfl
      have HD_8 := Aside0.mk (blk_alloc HD_7.out (.cells #[.slice none 0 0, .slice none 0 0] 25))
      have HI_8 := Aside0.mk (blk_alloc HI_7.out (.cells #[.slice none 0 0, .slice none 0 0] 25))
      have HZ_8 := Aside0.mk (blk_alloc HZ_7.out (.cells #[.slice none 0 0, .slice none 0 0] 25))
      have HL_8 := Aside0.mk (blk_alloc HL_7.out (.cells #[.slice none 0 0, .slice none 0 0] 25))
      have HX_8 := Aside0.mk (blk_alloc HX_7.out (.cells #[.slice none 0 0, .slice none 0 0] 25))
      have HF_8 := Aside0.mk (blk_alloc HF_7.out (.cells #[.slice none 0 0, .slice none 0 0] 25))
      have HDO_8 := Aside0.mk (blk_alloc HDO_7.out (.cells #[.slice none 0 0, .slice none 0 0] 25))
      have B_8 := Aside0.mk (B_7.out.alloc B_7.out.size (.cells #[.slice none 0 0, .slice none 0 0] 25))
      refine hK.out _ _ ⟨(blk_cell HDO_8.out 0).trans rfl, (blk_cell HD_8.out 0).trans rfl, (blk_cell HD_8.out 1).trans rfl⟩ (fun hHeld => ?_)
      clear hK K
      refine norm_ (a' := ?_) ?_ ?_
      rotate_left
      · show Act.put _ (some 19) _ = _
        simp only [Act.put, List.setIfInBounds_toArray, List.set_cons_zero, List.set_cons_succ, i64_w, i32_w]
        rfl
      exact norm_ (by simp only [putAll, Act.put, List.setIfInBounds_toArray, List.set_cons_zero, List.set_cons_succ]) (hCont (w7.heap.size, A4, c4, A5, c5) _ ⟨HD_8.out, HI_8.out, HZ_8.out, HL_8.out, HX_8.out, HF_8.out, HDO_8.out, B_8.out, blk_new w7 (.cells #[.slice none 0 0, .slice none 0 0] 25), HS7.out⟩)
    · skip
      refine value_ (w1 := ?_) (v := ?_) (by rfl) rfl ?_ ?_
      rotate_left 2
      · go_simp
        constructor
        · rfl
        · rfl
      have HD_7 := Aside0.mk (blk_alloc HD_6.out (.cells #[.slice none 0 0, .slice none 0 0] 25))
      have HI_7 := Aside0.mk (blk_alloc HI_6.out (.cells #[.slice none 0 0, .slice none 0 0] 25))
      have HZ_7 := Aside0.mk (blk_alloc HZ_6.out (.cells #[.slice none 0 0, .slice none 0 0] 25))
      have HL_7 := Aside0.mk (blk_alloc HL_6.out (.cells #[.slice none 0 0, .slice none 0 0] 25))
      have HX_7 := Aside0.mk (blk_alloc HX_6.out (.cells #[.slice none 0 0, .slice none 0 0] 25))
      have HF_7 := Aside0.mk (blk_alloc HF_6.out (.cells #[.slice none 0 0, .slice none 0 0] 25))
      have HDO_7 := Aside0.mk (blk_alloc HDO_6.out (.cells #[.slice none 0 0, .slice none 0 0] 25))
      have B_7 := Aside0.mk (B_6.out.alloc B_6.out.size (.cells #[.slice none 0 0, .slice none 0 0] 25))
      refine hK.out _ _ ⟨(blk_cell HDO_7.out 0).trans rfl, (blk_cell HD_7.out 0).trans rfl, (blk_cell HD_7.out 1).trans rfl⟩ (fun hHeld => ?_)
      clear hK K
      refine norm_ (a' := ?_) ?_ ?_
      rotate_left
      · show Act.put _ (some 19) _ = _
        simp only [Act.put, List.setIfInBounds_toArray, List.set_cons_zero, List.set_cons_succ, i64_w, i32_w]
        rfl
      refine one_ (i := 4) (N := some 70) #[true, true, true, true, true, false, false, false, true, false, false] rfl rfl (by kernel_rfl) (by decide) (fun K hK => ?_)
      refine Go.Proofs.Ytkgcaheddhfpgaa.CallV.goesV_ (first := #[]) (cap := #[.pointer (some ⟨w.heap.size + 1, 0, none⟩), .pointer (some ⟨w1.heap.size, 0, none⟩), .pointer (some ⟨w5.heap.size, 0, none⟩)]) Try.func32 (by kernel_rfl) rfl #[.agg #[.slice A0 l0.length c0, .slice A1 l1.length c1], .pointer (some ⟨w.heap.size + 1, 0, none⟩), .pointer (some ⟨w1.heap.size, 0, none⟩), .pointer (some ⟨w5.heap.size, 0, none⟩)] (by rfl) rfl rfl rfl (by first | (simp; done) | (simp; rfl)) ?_
      refine (HDeed.out (w6.alloc (.cells #[.slice none 0 0, .slice none 0 0] 25)) w1.heap.size w5.heap.size B_7.out HI_7.out HL_7.out HF_7.out).mono ?_
      rintro e w8 ⟨v0, v1, rfl, hR0, hR1, hb⟩
      refine ⟨_, rfl, ?_⟩
      obtain ⟨A4, c4, rfl⟩ := Kd.R_slice hR0
      obtain ⟨A5, c5, rfl⟩ := Kd.R_slice hR1
      clear hR0 hR1
      have HD_8 := Aside0.mk (blk_below HD_7.out hb)
      have HI_8 := Aside0.mk (blk_below HI_7.out hb)
      have HZ_8 := Aside0.mk (blk_below HZ_7.out hb)
      have HL_8 := Aside0.mk (blk_below HL_7.out hb)
      have HX_8 := Aside0.mk (blk_below HX_7.out hb)
      have HF_8 := Aside0.mk (blk_below HF_7.out hb)
      have HDO_8 := Aside0.mk (blk_below HDO_7.out hb)
      have B_8 := Aside0.mk (B_7.out.trans (hb.mono B_7.out.size))
      have HG8 := Aside0.mk (blk_below (blk_new w6 (.cells #[.slice none 0 0, .slice none 0 0] 25)) hb)
      clear hb
      refine hK.out _ _ ⟨(blk_cell HDO_8.out 0).trans rfl, (blk_cell HD_8.out 0).trans rfl, (blk_cell HD_8.out 1).trans rfl⟩ (fun hHeld => ?_)
      clear hK K
      refine norm_ (a' := ?_) ?_ ?_
      rotate_left
      · show Act.put _ (some 70) _ = _
        simp only [Act.put, List.setIfInBounds_toArray, List.set_cons_zero, List.set_cons_succ, i64_w, i32_w]
        rfl
      refine pure_ (i := 5) (N := some 65) (v := ?_) (a' := ?_) #[true, true, true, true, true, true, false, false, true, false, false] rfl rfl (by kernel_rfl) (fun _ _ _ h => h) (Or.inl ⟨by rfl, ?_⟩) ?_ ?_
      rotate_left
      · intro w'
        go_simp
        with_reducible rfl
      rotate_left
      · simp only [Act.put, List.setIfInBounds_toArray, List.set_cons_zero, List.set_cons_succ, i64_w, i32_w]
        rfl
      refine pure_ (i := 6) (N := some 71) (v := ?_) (a' := ?_) #[true, true, true, true, true, true, true, false, true, false, false] rfl rfl (by kernel_rfl) (fun _ _ _ h => h) (Or.inl ⟨by rfl, ?_⟩) ?_ ?_
      rotate_left
      · intro w'
        go_simp
        with_reducible rfl
      rotate_left
      · simp only [Act.put, List.setIfInBounds_toArray, List.set_cons_zero, List.set_cons_succ, i64_w, i32_w]
        rfl
      refine pure_ (i := 7) (N := some 72) (v := ?_) (a' := ?_) #[true, true, true, true, true, true, true, true, true, false, false] rfl rfl (by kernel_rfl) (fun _ _ _ h => h) (Or.inl ⟨by rfl, ?_⟩) ?_ ?_
      rotate_left
      · intro w'
        go_simp
        with_reducible rfl
      rotate_left
      · simp only [Act.put, List.setIfInBounds_toArray, List.set_cons_zero, List.set_cons_succ, i64_w, i32_w]
        rfl
      exact norm_ (by simp only [putAll, Act.put, List.setIfInBounds_toArray, List.set_cons_zero, List.set_cons_succ]) (hCont (w6.heap.size, A4, c4, A5, c5) _ ⟨HD_8.out, HI_8.out, HZ_8.out, HL_8.out, HX_8.out, HF_8.out, HDO_8.out, B_8.out, HG8.out, Nat.le_refl _⟩)
  rintro ⟨g, A4, c4, A5, c5⟩ w8 ⟨hD8, hI8, hZ8, hL8, hX8, hF8, hDO8, hB8, hG8, hLE⟩
  have HD_8 := Aside0.mk hD8
  have HI_8 := Aside0.mk hI8
  have HZ_8 := Aside0.mk hZ8
  have HL_8 := Aside0.mk hL8
  have HX_8 := Aside0.mk hX8
  have HF_8 := Aside0.mk hF8
  have HDO_8 := Aside0.mk hDO8
  have B_8 := Aside0.mk hB8
  have HG_8 := Aside0.mk hG8
  have HLE := Aside0.mk hLE
  clear hB8 hG8 hLE hD8 hI8 hZ8 hL8 hX8 hF8 hDO8
  have hHeld : w8.cell? ⟨w5.heap.size + 1, 0, none⟩ = some (.func (.func 32) #[] #[.pointer (some ⟨w.heap.size + 1, 0, none⟩), .pointer (some ⟨w1.heap.size, 0, none⟩), .pointer (some ⟨w5.heap.size, 0, none⟩)]) ∧ w8.cell? ⟨w.heap.size, 0, none⟩ = some (.slice A0 l0.length c0) ∧ w8.cell? ⟨w.heap.size, 1, none⟩ = some (.slice A1 l1.length c1) := ⟨(blk_cell HDO_8.out 0).trans rfl, (blk_cell HD_8.out 0).trans rfl, (blk_cell HD_8.out 1).trans rfl⟩
  have y0 := blk_cell HG_8.out 0
  have y1 := blk_cell HG_8.out 1
  have fy0 := blk_frozen HG_8.out 0
  have fy1 := blk_frozen HG_8.out 1
  refine norm_ (a' := ?_) ?_ ?_
  rotate_left
  · simp only [putAll, Act.put, List.setIfInBounds_toArray, List.set_cons_zero, List.set_cons_succ]
    rfl
  refine last_ (i := 9) (N := none) #[true, true, true, true, true, true, true, true, true, true, false] rfl rfl (by kernel_rfl) (by decide) (fun K hK => ?_)
  refine skip_ (w1 := ?_) (by rfl) rfl ?_ ?_
  rotate_left
  · go_simp
    rfl
  refine hK.out _ _ ?_
  clear hK K
  refine pure_ (i := 10) (N := some 20) (v := ?_) (a' := ?_) #[true, true, true, true, true, true, true, true, true, true, true] rfl rfl (by kernel_rfl) (fun _ _ _ h => h) (Or.inl ⟨by rfl, ?_⟩) ?_ ?_
  rotate_left
  · intro w'
    go_simp
    with_reducible rfl
  rotate_left
  · simp only [Act.put, List.setIfInBounds_toArray, List.set_cons_zero, List.set_cons_succ, i64_w, i32_w]
    rfl
  refine done_ (by kernel_rfl) ?_
  obtain ⟨w9, hw_⟩ : ∃ x_, x_ = (w8.setCell ⟨g, 0, none⟩ (.slice A4 b1.length c4)).setCell ⟨g, 1, none⟩ (.slice A5 u1.length c5) := ⟨_, rfl⟩
  rw [← hw_]
  have HD_9 := Aside0.mk (show w9.heap[w.heap.size]? = some (.cells (#[.slice A0 l0.length c0, .slice A1 l1.length c1]) 25 (0, 0)) by rw [hw_]; exact blk_far (blk_far HD_8.out (p := ⟨g, 0, none⟩) (by have h1 := blk_lt HD_6.out; have h2 := HLE.out; show w.heap.size ≠ g; omega) _) (p := ⟨g, 1, none⟩) (by have h1 := blk_lt HD_6.out; have h2 := HLE.out; show w.heap.size ≠ g; omega) _)
  have HI_9 := Aside0.mk (show w9.heap[w.heap.size + 1]? = some (.cells (#[.int .i64 a]) 3 (0, 0)) by rw [hw_]; exact blk_far (blk_far HI_8.out (p := ⟨g, 0, none⟩) (by have h1 := blk_lt HI_6.out; have h2 := HLE.out; show w.heap.size + 1 ≠ g; omega) _) (p := ⟨g, 1, none⟩) (by have h1 := blk_lt HI_6.out; have h2 := HLE.out; show w.heap.size + 1 ≠ g; omega) _)
  have HZ_9 := Aside0.mk (show w9.heap[w.heap.size + 1 + 1]? = some (.cells (#[.slice none 0 0, .slice none 0 0]) 25 (0, 0)) by rw [hw_]; exact blk_far (blk_far HZ_8.out (p := ⟨g, 0, none⟩) (by have h1 := blk_lt HZ_6.out; have h2 := HLE.out; show w.heap.size + 1 + 1 ≠ g; omega) _) (p := ⟨g, 1, none⟩) (by have h1 := blk_lt HZ_6.out; have h2 := HLE.out; show w.heap.size + 1 + 1 ≠ g; omega) _)
  have HL_9 := Aside0.mk (show w9.heap[w1.heap.size]? = some (.cells (blkT n0 t0 k0 n1 t1 k1) 62 (0, 0)) by rw [hw_]; exact blk_far (blk_far HL_8.out (p := ⟨g, 0, none⟩) (by have h1 := blk_lt HL_6.out; have h2 := HLE.out; show w1.heap.size ≠ g; omega) _) (p := ⟨g, 1, none⟩) (by have h1 := blk_lt HL_6.out; have h2 := HLE.out; show w1.heap.size ≠ g; omega) _)
  have HX_9 := Aside0.mk (show w9.heap[w3.heap.size]? = some (.cells (#[.int .i64 xn, .string xt, .bool xk]) 61 (0, 0)) by rw [hw_]; exact blk_far (blk_far HX_8.out (p := ⟨g, 0, none⟩) (by have h1 := blk_lt HX_6.out; have h2 := HLE.out; show w3.heap.size ≠ g; omega) _) (p := ⟨g, 1, none⟩) (by have h1 := blk_lt HX_6.out; have h2 := HLE.out; show w3.heap.size ≠ g; omega) _)
  have HF_9 := Aside0.mk (show w9.heap[w5.heap.size]? = some (.cells (#[.string f]) 9 (0, 0)) by rw [hw_]; exact blk_far (blk_far HF_8.out (p := ⟨g, 0, none⟩) (by have h1 := blk_lt HF_6.out; have h2 := HLE.out; show w5.heap.size ≠ g; omega) _) (p := ⟨g, 1, none⟩) (by have h1 := blk_lt HF_6.out; have h2 := HLE.out; show w5.heap.size ≠ g; omega) _)
  have HDO_9 := Aside0.mk (show w9.heap[w5.heap.size + 1]? = some (.cells (#[.func (.func 32) #[] #[.pointer (some ⟨w.heap.size + 1, 0, none⟩), .pointer (some ⟨w1.heap.size, 0, none⟩), .pointer (some ⟨w5.heap.size, 0, none⟩)], .func (.func 34) #[] #[]]) 68 (0, 0)) by rw [hw_]; exact blk_far (blk_far HDO_8.out (p := ⟨g, 0, none⟩) (by have h1 := blk_lt HDO_6.out; have h2 := HLE.out; show w5.heap.size + 1 ≠ g; omega) _) (p := ⟨g, 1, none⟩) (by have h1 := blk_lt HDO_6.out; have h2 := HLE.out; show w5.heap.size + 1 ≠ g; omega) _)
  have HG_9 := Aside0.mk (show w9.heap[g]? = some (.cells (#[.slice A4 b1.length c4, .slice A5 u1.length c5]) 25 (0, 0)) by rw [hw_]; exact blk_set (blk_set HG_8.out 0 (.slice A4 b1.length c4)) 1 (.slice A5 u1.length c5))
  have B_9 := Aside0.mk (show Below w.heap.size w w9 by rw [hw_]; exact (B_8.out.setCell (p := ⟨g, 0, none⟩) (by have h1 := B_6.out.size; have h2 := HLE.out; show w.heap.size ≤ g; omega) _).setCell (p := ⟨g, 1, none⟩) (by have h1 := B_6.out.size; have h2 := HLE.out; show w.heap.size ≤ g; omega) _)
  clear hw_
  have hne_ : (e1 != 0) = true := by rw [bne_iff_ne]; exact hne
  clear hHeld hne
  have z0 := blk_cell HZ_9.out 0
  have z1 := blk_cell HZ_9.out 1
  have fz0 := blk_frozen HZ_9.out 0
  have fz1 := blk_frozen HZ_9.out 1
  simp only [List.getElem?_toArray, List.getElem?_cons_zero, List.getElem?_cons_succ] at z0 z1
  go_wp2
  have HZ_e := Aside0.mk (blk_set (blk_set HZ_9.out 0 (.slice none 0 0)) 1 (.slice none 0 0))
  have z0 := blk_cell HZ_e.out 0
  have z1 := blk_cell HZ_e.out 1
  refine bodyPost_ret (v := .tuple #[.agg #[.slice none 0 0, .slice none 0 0], .bool false, .int .i64 e1]) ?_ rfl ⟨_, _, rfl, Kd.R_nil _ _ _ _ _, Kd.R_nil _ _ _ _ _, (B_9.out.setCell (p := ⟨w.heap.size + 1 + 1, 0, none⟩) (by show w.heap.size ≤ w.heap.size + 1 + 1; omega) _).setCell (p := ⟨w.heap.size + 1 + 1, 1, none⟩) (by show w.heap.size ≤ w.heap.size + 1 + 1; omega) _⟩
  simp [results, Try.results15, go_sem, z0, z1]
end Go.Proofs.Ytkgcaheddhfpgaa.P
