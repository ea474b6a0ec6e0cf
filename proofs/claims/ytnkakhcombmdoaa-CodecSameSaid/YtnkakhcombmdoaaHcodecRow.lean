/-
  codec.Row, by hand: a row's text: how many, and each one's text; an error for a row too long, or one that holds a text too long. For every row.
-/
import Derived.Maps.AppendAt
import Derived.OwnWalk
import Derived.LoopTactic
import Derived.Test.YtnkakhcombmdoaaWMore
import Derived.Test.YtnkakhcombmdoaaHBuilder
import Derived.Test.YtnkakhcombmdoaaHcodecNumber
import Derived.Test.YtnkakhcombmdoaaFcodecText
namespace Go.Proofs.Ytnkakhcombmdoaa.P
open Go.RowKit Go.Shelf Go.Proofs Go.Proofs.CodecPlain Go.Proofs.YtnkakhcombmdoaaW.PrintWords Go.Proofs.YtnkakhcombmdoaaW.PrintLast

theorem bld_below {T e : TypeId} {B b : Nat} {p : Value} {bs : List Value} {w w' : World} (h : Lib.BuilderAt T e B b p bs w) (hb : Below w.heap.size w w') : Lib.BuilderAt T e B b p bs w' := by
  obtain ⟨hB, v, hbk, hown, hne⟩ := h
  have hlt : b < w.heap.size := (Array.getElem?_eq_some_iff.1 hbk).1
  exact ⟨hB, v, (hb.block b hlt).trans hbk, own_move hown (fun k hk => hb.block k (own_lt hown k hk)), hne⟩
theorem isBld_below {T e : TypeId} {B b : Nat} {bs : List Value} {w w' : World} (h : Lib.IsBuilder T e B b bs w) (hb : Below w.heap.size w w') : Lib.IsBuilder T e B b bs w' :=
  h.elim (fun h => .inl (bld_below h hb)) (fun h => .inr (bld_below h hb))
theorem cells_snoc (L : List UInt8) (s : ByteArray) : Lib.byteCells L ++ Lib.strCells s = Lib.byteCells (L ++ s.data.toList) := by simp [Lib.byteCells, Lib.strCells]

/-- 'b.WriteString(s)'. -/
theorem bld_write (B b : Nat) (L : List UInt8) (s : ByteArray) (w : World) (h : Lib.IsBuilder 60 5 B b (Lib.byteCells L) w) (hlen : L.length + s.size ≤ 140737488355328) (hBw : B ≤ w.heap.size) :
    Calls Try.prog 42 #[.pointer (some ⟨b, 0, none⟩), .string s] w fun e w' => e = .returned (.tuple #[.int .i64 s.size, .nilIface]) ∧ Aside0 (Lib.IsBuilder 60 5 B b (Lib.byteCells (L ++ s.data.toList)) w') ∧ Aside0 (Below B w w') := by
  refine (Builder_WriteString B b (Lib.byteCells L) s w h (by simpa [Lib.byteCells] using hlen) hBw).mono ?_
  rintro e w' ⟨rfl, h1, h2⟩
  exact ⟨rfl, ⟨.inr (by rw [← cells_snoc]; exact h1)⟩, ⟨h2⟩⟩

theorem rd_string (l : List ByteArray) (k : Nat) (h : k < l.length) : rdOf ByteArray.empty l (k : Int) = l[k] := by
  simp [rdOf, List.getD_eq_getElem?_getD, h]

/-- What codec.Row answers. -/
def codec_Row.f (l : List ByteArray) : Option (ByteArray × Int) :=
  if 1000 < l.length then some (⟨#[]⟩, 2) else if l.all (fun s => decide (s.size ≤ 4000)) = true then some (rowStr l, 0) else some (⟨#[]⟩, 2)

theorem text_ok (s : ByteArray) (h : s.size ≤ 4000) : codec_Text.f s = some (textStr s, 0) := by
  have hn := numStr_size (s.size : Int)
  unfold codec_Text.f codec_Number.f
  rw [if_neg (by omega), if_pos (by omega)]
  simp only [Option.bind_some]
  rw [if_pos (by omega)]
  rfl
theorem text_no (s : ByteArray) (h : 4000 < s.size) : codec_Text.f s = some (⟨#[]⟩, 2) := by
  unfold codec_Text.f
  rw [if_pos (by omega)]

set_option maxHeartbeats 4000000 in
set_option maxRecDepth 100000 in
theorem codec_Row_in (A : Option Addr) (c : Nat) (l : List ByteArray) (w : World) (hr : Kd.C Kd.string w A l.length l) (hl : l.length ≤ 1000) :
    Calls Try.prog 19 #[.slice A l.length c] w fun e w' => ∃ r1 r2, Aside0 (codec_Row.f l = some (r1, r2)) ∧ e = .returned (.tuple #[.string r1, .int .i64 r2]) ∧ Below w.heap.size w w' := by
  have HR := Aside0.mk hr
  clear hr
  have e0 : decide (1000 < l.length) = false := decide_eq_false (by omega)
  have hnum : As (codec_Number.f (l.length : Int) = some (numStr l.length, 0)) := ⟨by unfold codec_Number.f; rw [if_pos (by omega)]⟩
  have hns := numStr_size (l.length : Int)
  go_enter Try.func19, Try.ntmps19
  go_wp2_with (go_at_call 15; refine (codec_Number.calls _ _ _ _ hnum.out).mono ?_; rintro e w1 ⟨rfl, hb1⟩; have HB1 := Aside0.mk hb1; clear hb1; have HB := Aside0.mk (((Below.refl w.heap.size w).alloc (Nat.le_refl _) _).trans (HB1.out.mono (by simp))); have hbld := isBld_below (Lib.fresh_isBuilder 60 5 w) HB1.out; have hbl := Aside0.mk hbld; clear hbld HB1)
  go_wp2_with (go_at_call 42; refine (bld_write w.heap.size w.heap.size [] (numStr l.length) _ hbl.out (by simp; omega) HB.out.size).mono ?_; rintro e w2 ⟨rfl, hbw, hB2⟩)
  have HB3 := Aside0.mk (HB.out.trans hB2.out)
  clear HB hB2 hbl
  go_loopw [8, 9, 10, 24] (fun _ _ _ i wr => ∃ k : Nat, k ≤ l.length ∧ i = .int .i64 k ∧ Aside0 (∀ s ∈ l.take k, s.size ≤ 4000) ∧ Aside0 (Lib.IsBuilder 60 5 w.heap.size w.heap.size (Lib.byteCells (((numStr l.length) ++ catStr ((l.take k).map textStr)).data.toList)) wr) ∧ Aside0 (Below w.heap.size w wr))
    (fun _ _ _ i _ => l.length - (intOf i).toNat)
  case atStart => exact ⟨0, Nat.zero_le _, rfl, ⟨by simp⟩, ⟨by have := hbw.out; simpa [catStr] using this⟩, HB3⟩
  case round =>
    clear HB3 hbw e0 hnum
    obtain ⟨k, hk, rfl, hall, hbl, HB⟩ := hrel
    by_cases hlt : k < l.length
    · obtain ⟨ad, rfl, hx⟩ := Kd.at_string (Kd.C_below HR.out HB.out) (k : Int) (by omega) (by omega)
      rw [rd_string l k hlt, Int.toNat_natCast] at hx
      by_cases hsz : l[k].size ≤ 4000
      · have ht := Aside0.mk (text_ok l[k] hsz)
        have hts := textStr_size l[k]
        have hcs := catStr_size (l.take k) hall.out
        rw [List.length_take] at hcs
        have hnx := Aside0.mk (row_next l k hlt)
        have hal2 : Aside0 (∀ s ∈ l.take (k + 1), s.size ≤ 4000) := ⟨by
          rw [List.take_succ_eq_append_getElem hlt]; intro s hs
          rcases List.mem_append.1 hs with h | h
          · exact hall.out s h
          · rw [List.mem_singleton.1 h]; exact hsz⟩
        have hlen : Aside0 (((numStr (l.length : Int)) ++ catStr ((l.take k).map textStr)).data.toList.length + (textStr l[k]).size ≤ 140737488355328) := ⟨by
          rw [Array.length_toList]
          show ((numStr (l.length : Int)) ++ catStr ((l.take k).map textStr)).size + _ ≤ _
          rw [CodecPlain.size_append]
          omega⟩
        clear hsz hts hcs
        go_wp2_with (first | (go_at_call 17; refine (codec_Text.calls _ _ _ _ ht.out).mono ?_; rintro e w3 ⟨rfl, hb3⟩; have hbl3 := Aside0.mk (isBld_below hbl.out hb3); have HB3 := Aside0.mk (HB.out.trans (hb3.mono HB.out.size)); clear hb3) | (go_at_call 42; refine (bld_write w.heap.size w.heap.size _ (textStr l[k]) _ hbl3.out hlen.out HB3.out.size).mono ?_; rintro e w4 ⟨rfl, hbw4, hB4⟩))
        go_roundw
        case rel => exact ⟨k + 1, by omega, by go_num, hal2, ⟨by have := hbw4.out; rw [hnx.out] at this; exact this⟩, ⟨HB3.out.trans hB4.out⟩⟩
        case measure => simp [intOf]; omega
      · have ht := Aside0.mk (text_no l[k] (by omega))
        have hres : Aside0 (codec_Row.f l = some (⟨#[]⟩, 2)) := ⟨by
          unfold codec_Row.f
          rw [if_neg (by omega), if_neg]
          intro h
          have := List.all_eq_true.1 h l[k] (List.getElem_mem hlt)
          exact hsz (of_decide_eq_true this)⟩
        clear hsz
        go_wp2_with (go_at_call 17; refine (codec_Text.calls _ _ _ _ ht.out).mono ?_; rintro e w3 ⟨rfl, hb3⟩; have HB3 := Aside0.mk (HB.out.trans (hb3.mono HB.out.size)); clear hb3)
        go_ret2
        exact ⟨_, _, hres, rfl, HB3.out⟩
    · obtain rfl : k = l.length := by omega
      have hres : Aside0 (codec_Row.f l = some (rowStr l, 0)) := ⟨by
          unfold codec_Row.f
          rw [if_neg (by omega), if_pos]
          rw [List.all_eq_true]
          intro s hs
          have h := hall.out s (by rw [List.take_length]; exact hs)
          exact decide_eq_true h⟩
      have hbe := hbl.out
      rw [List.take_length] at hbe
      have hbe2 := Aside0.mk hbe
      clear hbe hbl
      go_wp2_with (go_at_call 43; refine (Try.Builder_String_any w.heap.size w.heap.size _ _ hbe2.out HB.out.size).mono ?_; rintro e w5 ⟨rfl, hb5⟩; have HB5 := Aside0.mk (HB.out.trans hb5); clear hb5)
      go_ret2
      exact ⟨_, _, hres, rfl, HB5.out⟩

set_option maxHeartbeats 1000000 in
theorem codec_Row.calls (A0 : Option Addr) (c0 : Nat) (l0 : List ByteArray) (r1 : ByteArray) (r2 : Int) (w : World) (hr0 : Kd.C Kd.string w A0 l0.length l0) (hc0 : l0.length ≤ c0) (h : codec_Row.f l0 = some (r1, r2)) :
    Calls Try.prog 19 #[.slice A0 l0.length c0] w fun e w' => e = .returned (.tuple #[.string r1, .int .i64 r2]) ∧ Below w.heap.size w w' := by
  by_cases hl : l0.length ≤ 1000
  · refine (codec_Row_in A0 c0 l0 w hr0 hl).mono ?_
    rintro e w' ⟨s1, s2, hs, rfl, hb⟩
    have := h.symm.trans hs.out
    simp only [Option.some.injEq, Prod.mk.injEq] at this
    obtain ⟨rfl, rfl⟩ := this
    exact ⟨rfl, hb⟩
  · have hgt : 1000 < l0.length := by omega
    have hm := hr0.2.1
    unfold codec_Row.f at h
    rw [if_pos (by omega)] at h
    simp only [Option.some.injEq, Prod.mk.injEq] at h
    obtain ⟨rfl, rfl⟩ := h
    clear hl hr0
    go_enter Try.func19, Try.ntmps19
    go_wp2
    go_ret2
    exact ⟨rfl, Below.refl _ _⟩
end Go.Proofs.Ytnkakhcombmdoaa.P
