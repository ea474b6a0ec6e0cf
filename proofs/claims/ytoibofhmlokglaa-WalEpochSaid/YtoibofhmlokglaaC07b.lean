/-
  Texts that the claims of this chapter share, joined.
-/
import Derived.Test.YtoibofhmlokglaaPx0
import Derived.Test.YtoibofhmlokglaaC07a
import Derived.Maps.AppendAt
import Derived.OwnWalk
import Derived.LoopTactic
import Derived.RangeFuncBox
import Derived.Test.YtoibofhmlokglaaWMore
import Derived.Lib.Strings
import Derived.Lib.Slices
import Derived.Lib.Walk
import Derived.Lib.Builder
import Derived.Lib.AppendStr
import Derived.Lib.UnsafeStr
import Derived.WalkKit
import Derived.Laws.Externs
import Derived.Laws.IdiomCopy
import Derived.Shelf.Strings.BuilderX
import Derived.Test.YtoibofhmlokglaaShelf
import Derived.Test.YtoibofhmlokglaaProg
import Derived.Below
import Derived.RangeFuncNested
import Derived.RangeFuncBound
import Derived.RangeFuncCalls
import Derived.RangeFuncLeaves
import Derived.Shelf.Abstract
import Derived.Shelf.RegionOpen
import Derived.OwnWalkIn
import Derived.TacticsInMore
import Derived.LoopNIn
import Derived.LoopIn
import Derived.Outline
set_option linter.unusedVariables false
set_option linter.unusedSimpArgs false
-- Written by a program of this session (xprint.py) over the kit's print.py.
namespace Go.Proofs.Ytoibofhmlokglaa.P
open Go.RowKit Go.Proofs.YtoibofhmlokglaaW.PrintWords Go.Proofs.YtoibofhmlokglaaW.PrintLast Go.Proofs.YtoibofhmlokglaaW.PrintMore
attribute [local go_sem] max2_int min2_int max_two min_two max_three min_three max_four min_four   -- for this text's walks alone
set_option linter.unusedVariables false
set_option linter.unusedSimpArgs false

/-! ### codec_GetText: function 80 -/
def codec_GetText.f (a0 : ByteArray) : Option (ByteArray × ByteArray × Bool) := (codec_GetNumber.f a0).bind fun bt382 => (if bt382.2.2 = true then (if bt382.1 > 4000 then (some ((⟨#[]⟩ : ByteArray), (⟨#[]⟩ : ByteArray), false)) else (if bt382.1 > (bt382.2.1.size : Int) then (some ((⟨#[]⟩ : ByteArray), (⟨#[]⟩ : ByteArray), false)) else (if 0 ≤ bt382.1 then (if bt382.1 ≤ (bt382.2.1.size : Int) then (some (bt382.2.1.extract 0 (bt382.1 : Int).toNat, bt382.2.1.extract (bt382.1 : Int).toNat bt382.2.1.size, true)) else (none)) else (none)))) else (some ((⟨#[]⟩ : ByteArray), (⟨#[]⟩ : ByteArray), false)))
set_option maxHeartbeats 8000000 in
set_option maxRecDepth 100000 in
theorem codec_GetText.calls (a0 : ByteArray) (r1 : ByteArray) (r2 : ByteArray) (r3 : Bool) (w : World) (h : codec_GetText.f a0 = some (r1, r2, r3)) :
    Calls Try.prog 80 #[.string a0] w fun e w' => e = .returned (.tuple #[.string r1, .string r2, .bool r3]) ∧ Drawn0 w w' := by
  have H : ((codec_GetNumber.f a0).bind fun bt382 => (if bt382.2.2 = true then (if bt382.1 > 4000 then (some ((⟨#[]⟩ : ByteArray), (⟨#[]⟩ : ByteArray), false)) else (if bt382.1 > (bt382.2.1.size : Int) then (some ((⟨#[]⟩ : ByteArray), (⟨#[]⟩ : ByteArray), false)) else (if 0 ≤ bt382.1 then (if bt382.1 ≤ (bt382.2.1.size : Int) then (some (bt382.2.1.extract 0 (bt382.1 : Int).toNat, bt382.2.1.extract (bt382.1 : Int).toNat bt382.2.1.size, true)) else (none)) else (none)))) else (some ((⟨#[]⟩ : ByteArray), (⟨#[]⟩ : ByteArray), false)))) = some (r1, r2, r3) := h
  clear h
  replace H := Option.bind_eq_some_iff.mp H
  obtain ⟨⟨t382, t383, t384⟩, A20, H⟩ := H
  replace H : (if t384 = true then (if t382 > 4000 then (some ((⟨#[]⟩ : ByteArray), (⟨#[]⟩ : ByteArray), false)) else (if t382 > (t383.size : Int) then (some ((⟨#[]⟩ : ByteArray), (⟨#[]⟩ : ByteArray), false)) else (if 0 ≤ t382 then (if t382 ≤ (t383.size : Int) then (some (t383.extract 0 (t382 : Int).toNat, t383.extract (t382 : Int).toNat t383.size, true)) else (none)) else (none)))) else (some ((⟨#[]⟩ : ByteArray), (⟨#[]⟩ : ByteArray), false))) = some (r1, r2, r3) := H
  have A2 := Aside0.mk A20
  clear A20
  by_cases c3 : t384 = true
  · subst c3
    have H1 : (if t382 > 4000 then (some ((⟨#[]⟩ : ByteArray), (⟨#[]⟩ : ByteArray), false)) else (if t382 > (t383.size : Int) then (some ((⟨#[]⟩ : ByteArray), (⟨#[]⟩ : ByteArray), false)) else (if 0 ≤ t382 then (if t382 ≤ (t383.size : Int) then (some (t383.extract 0 (t382 : Int).toNat, t383.extract (t382 : Int).toNat t383.size, true)) else (none)) else (none)))) = some (r1, r2, r3) := by rw [if_pos rfl] at H; exact H
    clear H
    have H := H1
    clear H1
    by_cases c4 : t382 > 4000
    · rw [if_pos c4] at H
      have c4b0 : decide (4000 < t382) = true := decide_eq_true c4
      clear c4
      simp only [Option.some.injEq, Prod.mk.injEq] at H
      obtain ⟨rfl, rfl, rfl⟩ := H
      go_enter Try.func80, Try.ntmps80
      go_wp2_with (first | (go_at_call 72; (with_reducible refine (codec_GetNumber.calls a0 t382 t383 true _ A2.out).mono ?_); rintro e w' ⟨rfl, ⟨nd, rfl⟩⟩; (try first | exact ⟨rfl, _, World.drewN_drewN _ _ _⟩ | exact ⟨rfl, _, Eq.trans (World.drewN_drewN _ _ _) (congrArg (World.drewN _) (Nat.add_assoc _ _ _))⟩)))
      repeat (go_quiet (first | (go_at_call 72; (with_reducible refine (codec_GetNumber.calls a0 t382 t383 true _ A2.out).mono ?_); rintro e w' ⟨rfl, ⟨nd, rfl⟩⟩; (try first | exact ⟨rfl, _, World.drewN_drewN _ _ _⟩ | exact ⟨rfl, _, Eq.trans (World.drewN_drewN _ _ _) (congrArg (World.drewN _) (Nat.add_assoc _ _ _))⟩))); try go_wp2_with (first | (go_at_call 72; (with_reducible refine (codec_GetNumber.calls a0 t382 t383 true _ A2.out).mono ?_); rintro e w' ⟨rfl, ⟨nd, rfl⟩⟩; (try first | exact ⟨rfl, _, World.drewN_drewN _ _ _⟩ | exact ⟨rfl, _, Eq.trans (World.drewN_drewN _ _ _) (congrArg (World.drewN _) (Nat.add_assoc _ _ _))⟩))))
      go_ret3
      exact ⟨by first | rfl | (simp; done) | (simp [*]; done), by repeat (first | exact Drawn0.refl _ | apply Drawn0.step)⟩
    · rw [if_neg c4] at H
      have c4b0 : decide (4000 < t382) = false := decide_eq_false c4
      clear c4
      by_cases c5 : t382 > (t383.size : Int)
      · rw [if_pos c5] at H
        have c5b0 : decide ((t383.size : Int) < t382) = true := decide_eq_true c5
        clear c5
        simp only [Option.some.injEq, Prod.mk.injEq] at H
        obtain ⟨rfl, rfl, rfl⟩ := H
        go_enter Try.func80, Try.ntmps80
        go_wp2_with (first | (go_at_call 72; (with_reducible refine (codec_GetNumber.calls a0 t382 t383 true _ A2.out).mono ?_); rintro e w' ⟨rfl, ⟨nd, rfl⟩⟩; (try first | exact ⟨rfl, _, World.drewN_drewN _ _ _⟩ | exact ⟨rfl, _, Eq.trans (World.drewN_drewN _ _ _) (congrArg (World.drewN _) (Nat.add_assoc _ _ _))⟩)))
        repeat (go_quiet (first | (go_at_call 72; (with_reducible refine (codec_GetNumber.calls a0 t382 t383 true _ A2.out).mono ?_); rintro e w' ⟨rfl, ⟨nd, rfl⟩⟩; (try first | exact ⟨rfl, _, World.drewN_drewN _ _ _⟩ | exact ⟨rfl, _, Eq.trans (World.drewN_drewN _ _ _) (congrArg (World.drewN _) (Nat.add_assoc _ _ _))⟩))); try go_wp2_with (first | (go_at_call 72; (with_reducible refine (codec_GetNumber.calls a0 t382 t383 true _ A2.out).mono ?_); rintro e w' ⟨rfl, ⟨nd, rfl⟩⟩; (try first | exact ⟨rfl, _, World.drewN_drewN _ _ _⟩ | exact ⟨rfl, _, Eq.trans (World.drewN_drewN _ _ _) (congrArg (World.drewN _) (Nat.add_assoc _ _ _))⟩))))
        go_ret3
        exact ⟨by first | rfl | (simp; done) | (simp [*]; done), by repeat (first | exact Drawn0.refl _ | apply Drawn0.step)⟩
      · rw [if_neg c5] at H
        have c5b0 : decide ((t383.size : Int) < t382) = false := decide_eq_false c5
        clear c5
        by_cases c6 : 0 ≤ t382
        · rw [if_pos c6] at H
          have c6b0 := eq_true c6
          have c6b1 : decide (0 ≤ t382) = true := decide_eq_true c6
          clear c6
          by_cases c7 : t382 ≤ (t383.size : Int)
          · rw [if_pos c7] at H
            have c7b0 := eq_true c7
            have c7b1 : decide (t382 ≤ (t383.size : Int)) = true := decide_eq_true c7
            clear c7
            have c8b0 := eq_true (of_decide_eq_true (by first | (with_reducible assumption) | assumption) : 0 ≤ t382)
            have c9b0 := eq_true (of_decide_eq_true (by first | (with_reducible assumption) | assumption) : t382 ≤ (t383.size : Int))
            simp only [Option.some.injEq, Prod.mk.injEq] at H
            obtain ⟨rfl, rfl, rfl⟩ := H
            go_enter Try.func80, Try.ntmps80
            go_wp2_with (first | (go_at_call 72; (with_reducible refine (codec_GetNumber.calls a0 t382 t383 true _ A2.out).mono ?_); rintro e w' ⟨rfl, ⟨nd, rfl⟩⟩; (try first | exact ⟨rfl, _, World.drewN_drewN _ _ _⟩ | exact ⟨rfl, _, Eq.trans (World.drewN_drewN _ _ _) (congrArg (World.drewN _) (Nat.add_assoc _ _ _))⟩)))
            repeat (go_quiet (first | (go_at_call 72; (with_reducible refine (codec_GetNumber.calls a0 t382 t383 true _ A2.out).mono ?_); rintro e w' ⟨rfl, ⟨nd, rfl⟩⟩; (try first | exact ⟨rfl, _, World.drewN_drewN _ _ _⟩ | exact ⟨rfl, _, Eq.trans (World.drewN_drewN _ _ _) (congrArg (World.drewN _) (Nat.add_assoc _ _ _))⟩))); try go_wp2_with (first | (go_at_call 72; (with_reducible refine (codec_GetNumber.calls a0 t382 t383 true _ A2.out).mono ?_); rintro e w' ⟨rfl, ⟨nd, rfl⟩⟩; (try first | exact ⟨rfl, _, World.drewN_drewN _ _ _⟩ | exact ⟨rfl, _, Eq.trans (World.drewN_drewN _ _ _) (congrArg (World.drewN _) (Nat.add_assoc _ _ _))⟩))))
            go_ret3
            exact ⟨by first | rfl | (simp; done) | (simp [*]; done), by repeat (first | exact Drawn0.refl _ | apply Drawn0.step)⟩
          · rw [if_neg c7] at H
            exact absurd H (by simp)
        · rw [if_neg c6] at H
          exact absurd H (by simp)
  · replace c3 := Bool.eq_false_iff.mpr c3
    subst c3
    have H1 : (some ((⟨#[]⟩ : ByteArray), (⟨#[]⟩ : ByteArray), false)) = some (r1, r2, r3) := by rw [if_neg (show ¬ (false = true) by decide)] at H; exact H
    clear H
    have H := H1
    clear H1
    simp only [Option.some.injEq, Prod.mk.injEq] at H
    obtain ⟨rfl, rfl, rfl⟩ := H
    go_enter Try.func80, Try.ntmps80
    go_wp2_with (first | (go_at_call 72; (with_reducible refine (codec_GetNumber.calls a0 t382 t383 false _ A2.out).mono ?_); rintro e w' ⟨rfl, ⟨nd, rfl⟩⟩; (try first | exact ⟨rfl, _, World.drewN_drewN _ _ _⟩ | exact ⟨rfl, _, Eq.trans (World.drewN_drewN _ _ _) (congrArg (World.drewN _) (Nat.add_assoc _ _ _))⟩)))
    repeat (go_quiet (first | (go_at_call 72; (with_reducible refine (codec_GetNumber.calls a0 t382 t383 false _ A2.out).mono ?_); rintro e w' ⟨rfl, ⟨nd, rfl⟩⟩; (try first | exact ⟨rfl, _, World.drewN_drewN _ _ _⟩ | exact ⟨rfl, _, Eq.trans (World.drewN_drewN _ _ _) (congrArg (World.drewN _) (Nat.add_assoc _ _ _))⟩))); try go_wp2_with (first | (go_at_call 72; (with_reducible refine (codec_GetNumber.calls a0 t382 t383 false _ A2.out).mono ?_); rintro e w' ⟨rfl, ⟨nd, rfl⟩⟩; (try first | exact ⟨rfl, _, World.drewN_drewN _ _ _⟩ | exact ⟨rfl, _, Eq.trans (World.drewN_drewN _ _ _) (congrArg (World.drewN _) (Nat.add_assoc _ _ _))⟩))))
    go_ret3
    exact ⟨by first | rfl | (simp; done) | (simp [*]; done), by repeat (first | exact Drawn0.refl _ | apply Drawn0.step)⟩

end Go.Proofs.Ytoibofhmlokglaa.P
/-
  Words that frames need.
-/
namespace Go.Proofs.Ytoibofhmlokglaa.B
open Go.RowKit Go.Proofs.CodecPlain Go.Proofs.YtoibofhmlokglaaW.PrintWords Go.Proofs.YtoibofhmlokglaaW.PrintLast Go.Proofs.Ytoibofhmlokglaa.P

theorem toList_inj {a b : ByteArray} (h : a.toList = b.toList) : a = b := by
  rw [ByteArray.toList_eq, ByteArray.toList_eq] at h; exact ba_ext h

theorem wrap_id {x : Int} (h0 : -9223372036854775808 ≤ x) (h1 : x ≤ 9223372036854775807) : wrap64 x = x := by unfold wrap64; omega

theorem strOfNums_size (l : List Int) : (strOfNums l).size = l.length := by simp [strOfNums, ByteArray.size]

theorem strOfNums_list (l : List Int) : (strOfNums l).data.toList = l.map u8 := by simp [strOfNums, u8]

theorem text_ok (s : ByteArray) (h : s.size ≤ 4000) : codec_Text.f s = some (textStr s, 0) := by
  have hn := numStr_size (s.size : Int)
  unfold codec_Text.f codec_Number.f
  rw [if_neg (by omega), if_pos (by omega)]
  simp only [Option.bind_some]
  rw [if_pos (by omega)]
  rfl

theorem text_no (s : ByteArray) (h : 4000 < s.size) : codec_Text.f s = some (⟨#[]⟩, 2) := by
  unfold codec_Text.f
  rw [if_pos (by omega)]

theorem text_f (s : ByteArray) : codec_Text.f s = some (if s.size ≤ 4000 then (textStr s, 0) else (⟨#[]⟩, 2)) := by
  by_cases h : s.size ≤ 4000
  · rw [text_ok s h, if_pos h]
  · rw [text_no s (by omega), if_neg h]

theorem bt_list (s : ByteArray) (i : Nat) (h : i < s.data.toList.length) : bt s (i : Int) = (s.data.toList[i].toNat : Int) := by
  have h' : i < s.size := by rw [len_list] at h; exact h
  unfold bt
  rw [dif_pos (by simpa using h')]
  rfl

theorem wrap_bt (s : ByteArray) (i : Int) : wrap64 (bt s i) = bt s i := by have := bt_range s i; exact wrap_id (by omega) (by omega)

/-- Whether a number's own text stands at the begin. -/
theorem getText_f (s : ByteArray) : codec_GetText.f s = some (getText s) := by
  unfold codec_GetText.f codec_GetNumber.f getText
  simp only [Option.bind_some]
  have := getNum_bd s
  by_cases h1 : (getNum s).2.2 = true
  · rw [if_pos h1]
    by_cases h2 : (getNum s).1 > 4000
    · rw [if_pos h2, if_neg (by omega)]
    · rw [if_neg h2]
      by_cases h3 : (getNum s).1 > ((getNum s).2.1.size : Int)
      · rw [if_pos h3, if_neg (by omega)]
      · rw [if_neg h3, if_pos (by omega), if_pos (by omega), if_pos ⟨h1, by omega, by omega⟩]
  · rw [if_neg h1, if_neg (by rintro ⟨h, _⟩; exact h1 h)]
end Go.Proofs.Ytoibofhmlokglaa.B
/-
  crc.made, the table's step and crc.Sum, by hand.
-/
namespace Go.Proofs.Ytoibofhmlokglaa.P
open Go.RowKit Go.Shelf Go.Proofs.YtoibofhmlokglaaW.PrintWords Go.Proofs.YtoibofhmlokglaaW.PrintLast Go.Proofs.YtoibofhmlokglaaW.PrintMore

def crc1 (c : Int) : Int := if (bits BinOp.and IntKind.i64 c 1 == 1) = true then bits BinOp.xor IntKind.i64 (c / 2) 3988292384 else c / 2
def crcN : Nat → Int → Int
  | 0, c => c
  | n + 1, c => crc1 (crcN n c)
def crcT (i : Nat) : Int := crcN 8 (i : Int)

def zeros : Array Value := Array.replicate 256 (.int .i64 0)
theorem zeros_size : zeros.size = 256 := by simp [zeros]
theorem zero_tab (w : World) : Sem.run Try.prog (zeroValue 108) w = .ok (.agg zeros) w := by kernel_rfl
attribute [local go_sem] zero_tab

set_option maxHeartbeats 8000000 in
set_option maxRecDepth 100000 in
theorem crc_made_calls (w : World) : Calls Try.prog 84 #[] w fun e w' => ∃ cs, e = .returned (.pointer (some ⟨w.heap.size, 0, none⟩)) ∧ w'.heap[w.heap.size]? = some (.cells cs 108 (0, 0)) ∧ (∀ j : Nat, j < 256 → cs[j]? = some (.int .i64 (crcT j))) ∧ Below w.heap.size w w' := by
  go_enter Try.func84, Try.ntmps84
  go_wp2
  go_loopw [5] (fun i wr => ∃ (k : Nat) (cs : Array Value), k ≤ 256 ∧ i = .int .i64 k ∧ cs.size = 256 ∧ Aside0 (wr.heap[w.heap.size]? = some (.cells cs 108 (0, 0))) ∧ Aside0 (∀ j : Nat, j < k → cs[j]? = some (.int .i64 (crcT j))) ∧ Aside0 (Below w.heap.size w wr))
    (fun i _ => 256 - (intOf i).toNat)
  case atStart => exact ⟨0, zeros, by omega, rfl, zeros_size, ⟨blk_new _ _⟩, ⟨fun j hj => by omega⟩, ⟨(Below.refl _ _).alloc (Nat.le_refl _) _⟩⟩
  case round =>
    obtain ⟨k, cs, hk, rfl, hcs, HW, HT, HB⟩ := hrel
    by_cases hlt : k < 256
    · go_wp2
      go_loopw [9, 3] (fun i c wr2 => ∃ n : Nat, n ≤ 8 ∧ i = .int .i64 n ∧ c = .int .i64 (crcN n (k : Int)) ∧ Aside0 (wr2 = wr))
        (fun i _ _ => 8 - (intOf i).toNat)
      case atStart => exact ⟨0, by omega, rfl, rfl, ⟨rfl⟩⟩
      case round =>
        obtain ⟨n, hn, rfl, rfl, HE⟩ := hrel
        obtain rfl := HE.out
        by_cases h8 : n < 8
        · have HS := Aside0.mk (show crcN (n + 1) (k : Int) = crc1 (crcN n (k : Int)) from rfl)
          generalize crcN n (k : Int) = c at *
          unfold crc1 at HS
          by_cases h1 : (bits BinOp.and IntKind.i64 c 1 == 1) = true
          · rw [if_pos h1] at HS
            go_wp2
            exact ⟨⟨n + 1, by omega, by go_num, by rw [HS.out], ⟨trivial⟩⟩, by simp [intOf]; omega⟩
          · rw [if_neg h1] at HS
            have h2 : (bits BinOp.and IntKind.i64 c 1 == 1) = false := by simpa using h1
            clear h1
            go_wp2
            exact ⟨⟨n + 1, by omega, by go_num, by rw [HS.out], ⟨trivial⟩⟩, by simp [intOf]; omega⟩
        · obtain rfl : n = 8 := by omega
          have c0 := blk_cell HW.out k
          rw [Array.getElem?_eq_getElem (by omega)] at c0
          have f0 := blk_frozen HW.out k
          have hset := Aside0.mk (blk_set HW.out k (.int .i64 (crcN 8 (k : Int))))
          have hb := Aside0.mk (HB.out.setCell (p := ⟨w.heap.size, k, none⟩) (Nat.le_refl _) (.int .i64 (crcN 8 (k : Int))))
          generalize cs[k] = old at c0
          go_wp2
          refine ⟨⟨k + 1, _, by omega, by go_num, by simpa using hcs, hset, ⟨fun j hj => ?_⟩, hb⟩, by simp [intOf]; omega⟩
          rw [Array.getElem?_setIfInBounds]
          by_cases e : k = j
          · subst e; rw [if_pos rfl, if_pos (by omega)]; rfl
          · rw [if_neg e]; exact HT.out j (by omega)
    · obtain rfl : k = 256 := by omega
      go_wp2
      go_ret
      exact ⟨cs, rfl, HW.out, HT.out, HB.out⟩

def stepI (c b : Int) : Int := bits BinOp.and IntKind.i64 (bits BinOp.xor IntKind.i64 c b) 255
def stepV (c b : Int) : Int := bits BinOp.xor IntKind.i64 (c / 256) (crcT (stepI c b).toNat)
theorem and255 (x : Int) : 0 ≤ bits BinOp.and IntKind.i64 x 255 ∧ bits BinOp.and IntKind.i64 x 255 < 256 := by
  have hn : (BitVec.ofInt 64 x &&& BitVec.ofInt 64 255).toNat ≤ 255 := by
    rw [BitVec.toNat_and]
    exact Nat.le_trans Nat.and_le_right (by decide)
  show 0 ≤ IntKind.wrap .i64 (((BitVec.ofInt 64 x &&& BitVec.ofInt 64 255).toNat : Nat) : Int) ∧ IntKind.wrap .i64 (((BitVec.ofInt 64 x &&& BitVec.ofInt 64 255).toNat : Nat) : Int) < 256
  generalize (BitVec.ofInt 64 x &&& BitVec.ofInt 64 255).toNat = n at *
  have : IntKind.wrap .i64 (n : Int) = n := by
    simp [IntKind.wrap, IntKind.signed, IntKind.bits]
    omega
  omega

set_option maxHeartbeats 4000000 in
set_option maxRecDepth 100000 in
theorem crc_tstep_calls (B : Nat) (cs : Array Value) (c : Int) (b : Nat) (hb : b < 256) (w : World) (hw : w.heap[B]? = some (.cells cs 108 (0, 0))) (ht : ∀ j : Nat, j < 256 → cs[j]? = some (.int .i64 (crcT j))) :
    Calls Try.prog 85 #[.pointer (some ⟨B, 0, none⟩), .int .i64 c, .int .u8 (b : Int)] w fun e w' => e = .returned (.int .i64 (stepV c b)) ∧ w' = w := by
  obtain ⟨h0, h1⟩ := and255 (bits BinOp.xor IntKind.i64 c b)
  have hc : w.cell? ⟨B, (bits BinOp.and IntKind.i64 (bits BinOp.xor IntKind.i64 c b) 255).toNat, none⟩ = some (.int .i64 (crcT (stepI c b).toNat)) := by
    rw [blk_cell hw]; exact ht _ (by omega)
  have hS := Aside0.mk (show stepV c b = bits BinOp.xor IntKind.i64 (c / 256) (crcT (stepI c b).toNat) from rfl)
  generalize crcT (stepI c b).toNat = v at *
  clear ht hw
  go_enter Try.func85, Try.ntmps85
  go_wp2
  go_ret
  exact ⟨by rw [hS.out]; rfl, rfl⟩

def sumC (l : List UInt8) (c : Int) : Int := l.foldl (fun c b => stepV c (b.toNat : Int)) c
/-- The sum of a text. -/
def sumV (s : ByteArray) : Int := bits BinOp.xor IntKind.i64 (sumC s.data.toList 4294967295) 4294967295
theorem sumC_snoc (l : List UInt8) (b : UInt8) (c : Int) : sumC (l ++ [b]) c = stepV (sumC l c) (b.toNat : Int) := by simp [sumC]
theorem sumC_take (s : ByteArray) (k : Nat) (h : k < s.size) (c : Int) : sumC (s.data.toList.take (k + 1)) c = stepV (sumC (s.data.toList.take k) c) (s[k].toNat : Int) := by
  have hl : k < s.data.toList.length := by simpa using h
  rw [List.take_succ_eq_append_getElem hl, sumC_snoc]
  rfl

set_option maxHeartbeats 4000000 in
set_option maxRecDepth 100000 in
theorem crc_Sum_yes (s : ByteArray) (hs : s.size ≤ 1000000000) (w : World) : Calls Try.prog 78 #[.string s] w fun e w' => e = .returned (.int .i64 (sumV s)) ∧ Below w.heap.size w w' := by
  have HM := Aside0.mk (crc_made_calls w)
  have eg : ∀ args w, (callFunc 85 args).run Try.prog w = .ok (.enter 85 args) w := enters_of Try.func85 (by kernel_rfl) rfl
  go_enter Try.func78, Try.ntmps78
  go_wp2_with (first | (go_at_call 84; refine HM.out.mono ?_; rintro e w3 ⟨cs, rfl, hw3, ht3, hb3⟩; have HW3 := Aside0.mk hw3; have HT3 := Aside0.mk ht3; have HB3 := Aside0.mk hb3; clear hw3 ht3 hb3))
  go_loopw [4, 5, 10] (fun c _ i wr => ∃ k : Nat, k ≤ s.size ∧ i = .int .i64 k ∧ c = .int .i64 (sumC (s.data.toList.take k) 4294967295) ∧ Aside0 (wr = w3)) (fun _ _ i _ => s.size - (intOf i).toNat)
  case atStart => exact ⟨0, Nat.zero_le _, rfl, rfl, ⟨rfl⟩⟩
  case round =>
    obtain ⟨k, hk, rfl, rfl, HE⟩ := hrel
    obtain rfl := HE.out
    by_cases hlt : k < s.size
    · have hn := Aside0.mk (sumC_take s k hlt 4294967295)
      have hb := s[k].toNat_lt
      have HC := Aside0.mk (crc_tstep_calls w.heap.size cs (sumC (s.data.toList.take k) 4294967295) s[k].toNat hb _ HW3.out HT3.out)
      generalize sumC (s.data.toList.take k) 4294967295 = c at *
      go_wp2_with (go_at_fn 85; refine HC.out.mono ?_; rintro e w4 ⟨rfl, rfl⟩)
      go_roundw
      case rel => exact ⟨k + 1, by omega, by go_num, by rw [hn.out], ⟨trivial⟩⟩
      case measure => simp [intOf]; omega
    · obtain rfl : k = s.size := by omega
      have hw := Aside0.mk (show sumC (s.data.toList.take s.size) 4294967295 = sumC s.data.toList 4294967295 by rw [List.take_of_length_le (by simp)])
      go_wp2
      go_ret
      exact ⟨by rw [hw.out]; rfl, HB3.out⟩
def crc_Sum.f (a0 : ByteArray) : Option Int := if a0.size ≤ 1000000000 then some (sumV a0) else none
theorem crc_Sum.calls (a0 : ByteArray) (r : Int) (w : World) (h : crc_Sum.f a0 = some r) : Calls Try.prog 78 #[.string a0] w fun e w' => e = .returned (.int .i64 r) ∧ Below w.heap.size w w' := by
  unfold crc_Sum.f at h
  by_cases hs : a0.size ≤ 1000000000
  · rw [if_pos hs] at h
    obtain rfl := Option.some.inj h
    exact crc_Sum_yes a0 hs w
  · rw [if_neg hs] at h; cases h
end Go.Proofs.Ytoibofhmlokglaa.P
-- Written by a program of this session (xprint.py) over the kit's print.py.
namespace Go.Proofs.Ytoibofhmlokglaa.P
open Go.RowKit Go.Proofs.YtoibofhmlokglaaW.PrintWords Go.Proofs.YtoibofhmlokglaaW.PrintLast Go.Proofs.YtoibofhmlokglaaW.PrintMore
attribute [local go_sem] max2_int min2_int max_two min_two max_three min_three max_four min_four   -- for this text's walks alone
set_option linter.unusedVariables false
set_option linter.unusedSimpArgs false

/-! ### crc_Put: function 67 -/
def crc_Put.f (a0 : ByteArray) : Option (ByteArray × Int) := (codec_Text.f a0).bind fun bt369 => (if bt369.2 = 0 then ((crc_Sum.f a0).bind fun t371 => ((some (([(t371 / 16777216) % 256, (t371 / 65536) % 256, (t371 / 256) % 256, (t371) % 256] : List Int) : List Int)).bind fun y372 => (if (strOfNums y372).size + bt369.1.size ≤ 9223372036854775807 then (some ((strOfNums y372) ++ bt369.1, 0)) else (none)))) else (some ((⟨#[]⟩ : ByteArray), bt369.2)))
set_option maxHeartbeats 8000000 in
set_option maxRecDepth 100000 in
theorem crc_Put.calls (a0 : ByteArray) (r1 : ByteArray) (r2 : Int) (w : World) (h : crc_Put.f a0 = some (r1, r2)) :
    Calls Try.prog 67 #[.string a0] w fun e w' => e = .returned (.tuple #[.string r1, .int .i64 r2]) ∧ Below w.heap.size w w' := by
  have HB := Aside0.mk (Below.refl w.heap.size w)
  have H : ((codec_Text.f a0).bind fun bt369 => (if bt369.2 = 0 then ((crc_Sum.f a0).bind fun t371 => ((some (([(t371 / 16777216) % 256, (t371 / 65536) % 256, (t371 / 256) % 256, (t371) % 256] : List Int) : List Int)).bind fun y372 => (if (strOfNums y372).size + bt369.1.size ≤ 9223372036854775807 then (some ((strOfNums y372) ++ bt369.1, 0)) else (none)))) else (some ((⟨#[]⟩ : ByteArray), bt369.2)))) = some (r1, r2) := h
  clear h
  replace H := Option.bind_eq_some_iff.mp H
  obtain ⟨⟨t369, t370⟩, A20, H⟩ := H
  replace H : (if t370 = 0 then ((crc_Sum.f a0).bind fun t371 => ((some (([(t371 / 16777216) % 256, (t371 / 65536) % 256, (t371 / 256) % 256, (t371) % 256] : List Int) : List Int)).bind fun y372 => (if (strOfNums y372).size + t369.size ≤ 9223372036854775807 then (some ((strOfNums y372) ++ t369, 0)) else (none)))) else (some ((⟨#[]⟩ : ByteArray), t370))) = some (r1, r2) := H
  have A2 := Aside0.mk A20
  clear A20
  by_cases c3 : t370 = 0
  · rw [if_pos c3] at H
    have c3b0 : (t370 == 0) = true := beq_iff_eq.mpr c3
    have c3b1 : (t370 != 0) = false := bne_eq_false_iff_eq.mpr c3
    clear c3
    replace H := Option.bind_eq_some_iff.mp H
    obtain ⟨t371, A40, H⟩ := H
    replace H : ((some (([(t371 / 16777216) % 256, (t371 / 65536) % 256, (t371 / 256) % 256, (t371) % 256] : List Int) : List Int)).bind fun y372 => (if (strOfNums y372).size + t369.size ≤ 9223372036854775807 then (some ((strOfNums y372) ++ t369, 0)) else (none))) = some (r1, r2) := H
    have A4 := Aside0.mk A40
    clear A40
    obtain ⟨y372, hy372⟩ : ∃ y_ : List Int, y_ = (([(t371 / 16777216) % 256, (t371 / 65536) % 256, (t371 / 256) % 256, (t371) % 256] : List Int)) := ⟨_, rfl⟩
    replace H : (if (strOfNums y372).size + t369.size ≤ 9223372036854775807 then (some ((strOfNums y372) ++ t369, 0)) else (none)) = some (r1, r2) := by first | (rw [hy372]; with_reducible exact H) | (have H2_ := (Option.bind_some _ _).symm.trans H; rw [hy372]; with_reducible exact H2_) | (have H2_ := (Option.bind_some _ _).symm.trans H; with_reducible exact H2_) | with_reducible exact H | (rw [hy372]; exact H) | exact H
    have Ny372 := Aside0.mk hy372
    clear hy372
    by_cases c5 : (strOfNums y372).size + t369.size ≤ 9223372036854775807
    · rw [if_pos c5] at H
      have c5b0 := eq_true c5
      have c5b1 : decide ((strOfNums y372).size + t369.size ≤ 9223372036854775807) = true := decide_eq_true c5
      try have c5b2 : (9223372036854775807 < (strOfNums y372).size + t369.size) = False := eq_false (Nat.not_lt.2 c5)
      simp only [Option.some.injEq, Prod.mk.injEq] at H
      obtain ⟨rfl, rfl⟩ := H
      go_enter Try.func67, Try.ntmps67
      go_wp2_with (first | ((with_reducible refine gate_callee (f := 77) rfl ?_); refine goesL_ (some 9) rfl rfl Try.func77 (by kernel_rfl) rfl #[.string a0] rfl (by (try simp only [List.map_toArray, List.map_cons, List.map_nil]); first | done | rfl | (simp only [List.length_drop, List.length_take]; rfl)) ?_; (with_reducible refine (codec_Text.calls a0 t369 t370 _ A2.out).mono ?_); rintro e w6 ⟨rfl, hb⟩; refine ⟨_, rfl, ?_⟩; have n0_ := Aside0.mk (below_step (by repeat (first | (with_reducible first | exact HB.out | apply below_alloc | apply pw_below_drewN | apply below_drew1) | exact HB.out)) hb); clear HB; have HB := n0_; clear n0_; (try clear hb); (try clear hb2); (try clear hk); (try clear hi)) | ((with_reducible refine gate_callee (f := 78) rfl ?_); refine goesL_ (some 16) rfl rfl Try.func78 (by kernel_rfl) rfl #[.string a0] rfl (by (try simp only [List.map_toArray, List.map_cons, List.map_nil]); first | done | rfl | (simp only [List.length_drop, List.length_take]; rfl)) ?_; (with_reducible refine (crc_Sum.calls a0 t371 _ A4.out).mono ?_); rintro e w7 ⟨rfl, hb⟩; refine ⟨_, rfl, ?_⟩; have n0_ := Aside0.mk (below_step (by repeat (first | (with_reducible first | exact HB.out | apply below_alloc | apply pw_below_drewN | apply below_drew1) | exact HB.out)) hb); clear HB; have HB := n0_; clear n0_; (try clear hb); (try clear hb2); (try clear hk); (try clear hi)) | ((with_reducible refine gate_dst (N := 28) rfl ?_); refine Kd.R_lit (Kd.int .u8) _ 5 ?hg (N := 28) ?hd (xs := ([(t371 / 16777216) % 256, (t371 / 65536) % 256, (t371 / 256) % 256, (t371) % 256] : List Int)) (inner := [.int .u8 ((t371 / 16777216) % 256), .int .u8 ((t371 / 65536) % 256), .int .u8 ((t371 / 256) % 256), .int .u8 ((t371) % 256)]) (ok := fun _ => True) (okp := fun _ => True) ?hr ?hp (fun _ hk => hk) trivial (Below.refl _ _) (Nat.le_refl _) (by simp) ?_; (case hd => rfl); (case hg => rfl); (case hr => first | (go_simp; done) | (go_simp; rfl)); (case hp => exact (Reps.one (show Kd.M (Kd.int .u8) _ _ _ ((t371 / 16777216) % 256) [.int .u8 ((t371 / 16777216) % 256)] from rfl) (Reps.one (show Kd.M (Kd.int .u8) _ _ _ ((t371 / 65536) % 256) [.int .u8 ((t371 / 65536) % 256)] from rfl) (Reps.one (show Kd.M (Kd.int .u8) _ _ _ ((t371 / 256) % 256) [.int .u8 ((t371 / 256) % 256)] from rfl) (Reps.one (show Kd.M (Kd.int .u8) _ _ _ ((t371) % 256) [.int .u8 ((t371) % 256)] from rfl) (Reps.none _ _)))))); intro v373 w8 ho9 hb hg_ hnew_; clear hg_ hnew_; (first | rw [← Ny372.out] at ho9 | (simp only [Int.reduceToNat] at ho9; rw [← Ny372.out] at ho9)); have n0_ := Aside0.mk (Kd.R_lower ho9 (below_size (by repeat (first | (with_reducible first | exact HB.out | apply below_alloc | apply pw_below_drewN | apply below_drew1) | exact HB.out)))); have n1_ := Aside0.mk (below_step (by repeat (first | (with_reducible first | exact HB.out | apply below_alloc | apply pw_below_drewN | apply below_drew1) | exact HB.out)) hb); clear HB; have HO374 := n0_; have HB := n1_; clear n0_ n1_; clear hb ho9; have hcv10 := own_string (P := Try.prog) Try.underlying95 Try.underlying5 Try.underlying9 (Kd.own_of_R HO374.out)))
      go_ret2
      exact ⟨by first | rfl | (simp [errW_none, errW_some] <;> rfl) | (simp [*, errW_none, errW_some] <;> rfl), by repeat (first | (with_reducible first | exact HB.out | apply below_alloc | apply pw_below_drewN | apply below_drew1) | exact HB.out)⟩
    · rw [if_neg c5] at H
      exact absurd H (by simp)
  · rw [if_neg c3] at H
    have c3b0 : (t370 == 0) = false := beq_eq_false_iff_ne.mpr c3
    have c3b1 : (t370 != 0) = true := bne_iff_ne.mpr c3
    simp only [Option.some.injEq, Prod.mk.injEq] at H
    obtain ⟨rfl, rfl⟩ := H
    go_enter Try.func67, Try.ntmps67
    go_wp2_with (first | ((with_reducible refine gate_callee (f := 77) rfl ?_); refine goesL_ (some 9) rfl rfl Try.func77 (by kernel_rfl) rfl #[.string a0] rfl (by (try simp only [List.map_toArray, List.map_cons, List.map_nil]); first | done | rfl | (simp only [List.length_drop, List.length_take]; rfl)) ?_; (with_reducible refine (codec_Text.calls a0 t369 t370 _ A2.out).mono ?_); rintro e w11 ⟨rfl, hb⟩; refine ⟨_, rfl, ?_⟩; have n0_ := Aside0.mk (below_step (by repeat (first | (with_reducible first | exact HB.out | apply below_alloc | apply pw_below_drewN | apply below_drew1) | exact HB.out)) hb); clear HB; have HB := n0_; clear n0_; (try clear hb); (try clear hb2); (try clear hk); (try clear hi)))
    go_ret2
    exact ⟨by first | rfl | (simp [errW_none, errW_some] <;> rfl) | (simp [*, errW_none, errW_some] <;> rfl), by repeat (first | (with_reducible first | exact HB.out | apply below_alloc | apply pw_below_drewN | apply below_drew1) | exact HB.out)⟩

end Go.Proofs.Ytoibofhmlokglaa.P
-- Written by a program of this session (xprint.py) over the kit's print.py.
namespace Go.Proofs.Ytoibofhmlokglaa.P
open Go.RowKit Go.Proofs.YtoibofhmlokglaaW.PrintWords Go.Proofs.YtoibofhmlokglaaW.PrintLast Go.Proofs.YtoibofhmlokglaaW.PrintMore
attribute [local go_sem] max2_int min2_int max_two min_two max_three min_three max_four min_four   -- for this text's walks alone
set_option linter.unusedVariables false
set_option linter.unusedSimpArgs false

/-! ### crc_Get: function 71 -/
def crc_Get.l0 : Nat → ByteArray → ByteArray → ByteArray → Int → Int → Option (ByteArray × ByteArray × Int)
  | 0, _, _, _, _, _ => none
  | k + 1, x0, x5, x6, x8, x22 => if x22 < 4 then (if 0 ≤ x22 then (if x22 < (x0.size : Int) then (crc_Get.l0 k x0 x5 x6 (Go.bits .or .i64 (wrap64 (x8 * 256)) (wrap64 (bt x0 x22))) (wrap64 (x22 + 1))) else (none)) else (none)) else ((crc_Sum.f x5).bind fun t388 => (if t388 = x8 then (some (x5, x6, 0)) else (some ((⟨#[]⟩ : ByteArray), (⟨#[]⟩ : ByteArray), 30))))
def crc_Get.f (k : Nat) (a0 : ByteArray) : Option (ByteArray × ByteArray × Int) := if (a0.size : Int) < 4 then (some ((⟨#[]⟩ : ByteArray), (⟨#[]⟩ : ByteArray), 30)) else (if 4 ≤ (a0.size : Int) then ((codec_GetText.f (a0.extract 4 a0.size)).bind fun bt385 => (if bt385.2.2 = true then (crc_Get.l0 k a0 bt385.1 bt385.2.1 0 0) else (some ((⟨#[]⟩ : ByteArray), (⟨#[]⟩ : ByteArray), 30)))) else (none))
theorem crc_Get.mono_l : ∀ k, (∀ y0 y1 y2 y3 y4, LeO (crc_Get.l0 k y0 y1 y2 y3 y4) (crc_Get.l0 (k + 1) y0 y1 y2 y3 y4))
  | 0 => fun _ _ _ _ _ r h => by simp [crc_Get.l0] at h
  | k + 1 => by
    have ih0 := crc_Get.mono_l k
    · intro y0 y1 y2 y3 y4
      unfold crc_Get.l0
      repeat' first
      | (with_reducible exact ih0 _ _ _ _ _)
      | (with_reducible exact LeO.refl _)
      | (with_reducible exact LeO.none _)
      | (with_reducible refine LeO.ite ?_ ?_)
      | (with_reducible refine LeO.bind ?_ (fun _ => ?_))
      | exact ih0 _ _ _ _ _
      | exact LeO.none _
      | refine LeO.ite ?_ ?_
      | refine LeO.bind ?_ (fun _ => ?_)
theorem crc_Get.mono : ∀ a0 k, LeO (crc_Get.f k a0) (crc_Get.f (k + 1) a0) := by
  intro a0 k
  have ih0 := crc_Get.mono_l k
  unfold crc_Get.f
  repeat' first
      | (with_reducible exact ih0 _ _ _ _ _)
      | (with_reducible exact LeO.refl _)
      | (with_reducible exact LeO.none _)
      | (with_reducible refine LeO.ite ?_ ?_)
      | (with_reducible refine LeO.bind ?_ (fun _ => ?_))
      | exact ih0 _ _ _ _ _
      | exact LeO.none _
      | refine LeO.ite ?_ ?_
      | refine LeO.bind ?_ (fun _ => ?_)
set_option maxHeartbeats 8000000 in
set_option maxRecDepth 100000 in
theorem crc_Get.calls (k : Nat) (a0 : ByteArray) (r1 : ByteArray) (r2 : ByteArray) (r3 : Int) (w : World) (h : crc_Get.f k a0 = some (r1, r2, r3)) :
    Calls Try.prog 71 #[.string a0] w fun e w' => e = .returned (.tuple #[.string r1, .string r2, .int .i64 r3]) ∧ Below w.heap.size w w' := by
  have HB := Aside0.mk (Below.refl w.heap.size w)
  have H : (if (a0.size : Int) < 4 then (some ((⟨#[]⟩ : ByteArray), (⟨#[]⟩ : ByteArray), 30)) else (if 4 ≤ (a0.size : Int) then ((codec_GetText.f (a0.extract 4 a0.size)).bind fun bt385 => (if bt385.2.2 = true then (crc_Get.l0 k a0 bt385.1 bt385.2.1 0 0) else (some ((⟨#[]⟩ : ByteArray), (⟨#[]⟩ : ByteArray), 30)))) else (none))) = some (r1, r2, r3) := h
  clear h
  by_cases c2 : (a0.size : Int) < 4
  · rw [if_pos c2] at H
    have c2b0 : decide ((a0.size : Int) < 4) = true := decide_eq_true c2
    have c2b1 : decide (a0.size < 4) = true := decide_eq_true (by omega)
    clear c2
    simp only [Option.some.injEq, Prod.mk.injEq] at H
    obtain ⟨rfl, rfl, rfl⟩ := H
    go_enter Try.func71, Try.ntmps71
    go_wp2
    go_ret3
    exact ⟨by first | rfl | (simp [errW_none, errW_some] <;> rfl) | (simp [*, errW_none, errW_some] <;> rfl), by repeat (first | (with_reducible first | exact HB.out | apply below_alloc | apply pw_below_drewN | apply below_drew1) | exact HB.out)⟩
  · rw [if_neg c2] at H
    have c2b0 : decide ((a0.size : Int) < 4) = false := decide_eq_false c2
    have c2b1 : decide (a0.size < 4) = false := decide_eq_false (by omega)
    clear c2
    by_cases c3 : 4 ≤ (a0.size : Int)
    · rw [if_pos c3] at H
      have c3b0 := eq_true c3
      have c3b1 : decide (4 ≤ (a0.size : Int)) = true := decide_eq_true c3
      clear c3
      replace H := Option.bind_eq_some_iff.mp H
      obtain ⟨⟨t385, t386, t387⟩, A40, H⟩ := H
      replace H : (if t387 = true then (crc_Get.l0 k a0 t385 t386 0 0) else (some ((⟨#[]⟩ : ByteArray), (⟨#[]⟩ : ByteArray), 30))) = some (r1, r2, r3) := H
      have A4 := Aside0.mk A40
      clear A40
      by_cases c5 : t387 = true
      · subst c5
        have H1 : (crc_Get.l0 k a0 t385 t386 0 0) = some (r1, r2, r3) := by rw [if_pos rfl] at H; exact H
        clear H
        have H := H1
        clear H1
        have H' := Aside0.mk H
        clear H
        go_enter Try.func71, Try.ntmps71
        go_wp2_with (first | ((with_reducible refine gate_callee (f := 80) rfl ?_); refine goesL_ (some 16) rfl rfl Try.func80 (by kernel_rfl) rfl #[.string (a0.extract 4 a0.size)] rfl (by (try simp only [List.map_toArray, List.map_cons, List.map_nil]); first | done | rfl | (simp only [List.length_drop, List.length_take]; rfl)) ?_; (with_reducible refine (codec_GetText.calls (a0.extract 4 a0.size) t385 t386 true _ A4.out).mono ?_); rintro e w' ⟨rfl, ⟨nd, rfl⟩⟩; refine ⟨_, rfl, ?_⟩))
        go_loopg [8, 22] k (fun kq v8 v22 w' => ∃ (x8_1 : Int) (x22_1 : Int), v8 = .int .i64 x8_1 ∧ v22 = .int .i64 x22_1 ∧ Aside0 (crc_Get.l0 kq a0 t385 t386 x8_1 x22_1 = some (r1, r2, r3)) ∧ Aside0 (kq ≤ k) ∧ Aside0 (Below w.heap.size w w'))
        case atStart => exact ⟨(0), (0), (by first | rfl | (simp; done) | (simp [*]; done)), (by first | rfl | (simp; done) | (simp [*]; done)), H', ⟨Nat.le_refl _⟩, ⟨by repeat (first | (with_reducible first | exact HB.out | apply below_alloc | apply pw_below_drewN | apply below_drew1) | exact HB.out)⟩⟩
        case round =>
          clear H'
          try clear c2
          try clear c2b0
          try clear c2b1
          try clear p2
          try clear c3
          try clear c3b0
          try clear c3b1
          try clear c5
          obtain ⟨x8_1, x22_1, rfl, rfl, HA, HK1, HB⟩ := hrel
          cases gk with
          | zero => exact absurd HA.out (by simp [crc_Get.l0])
          | succ k1 =>
            have H := HA.out
            clear HA
            simp only [crc_Get.l0] at H
            by_cases c6 : x22_1 < 4
            · rw [if_pos c6] at H
              have c6b0 : decide (x22_1 < 4) = true := decide_eq_true c6
              clear c6
              by_cases c7 : 0 ≤ x22_1
              · rw [if_pos c7] at H
                have c7b0 : decide (0 ≤ x22_1) = true := decide_eq_true c7
                clear c7
                by_cases c8 : x22_1 < (a0.size : Int)
                · rw [if_pos c8] at H
                  have c8b0 : decide (x22_1 < (a0.size : Int)) = true := decide_eq_true c8
                  clear c8
                  have H' := Aside0.mk H
                  clear H
                  have p9 : 0 ≤ (x22_1 : Int) := of_decide_eq_true (by first | (with_reducible assumption) | assumption)
                  have q9 : x22_1 < (a0.size : Int) := of_decide_eq_true (by first | (with_reducible assumption) | assumption)
                  have hx9 := bt_at a0 x22_1
                  replace p9 := eq_true p9
                  replace q9 := eq_true q9
                  go_wp2
                  go_roundg k1
                  case measure => have := HK1.out; omega
                  case rel => exact ⟨(Go.bits .or .i64 (wrap64 (x8_1 * 256)) (wrap64 (bt a0 x22_1))), (wrap64 (x22_1 + 1)), (by first | rfl | (simp; done) | (simp [*]; done)), (by first | rfl | (simp; done) | (simp [*]; done)), H', ⟨by have := HK1.out; omega⟩, ⟨by repeat (first | (with_reducible first | exact HB.out | apply below_alloc | apply pw_below_drewN | apply below_drew1) | exact HB.out)⟩⟩
                · rw [if_neg c8] at H
                  exact absurd H (by simp)
              · rw [if_neg c7] at H
                exact absurd H (by simp)
            · rw [if_neg c6] at H
              have c6b0 : decide (x22_1 < 4) = false := decide_eq_false c6
              clear c6
              replace H := Option.bind_eq_some_iff.mp H
              obtain ⟨t388, A100, H⟩ := H
              replace H : (if t388 = x8_1 then (some (t385, t386, 0)) else (some ((⟨#[]⟩ : ByteArray), (⟨#[]⟩ : ByteArray), 30))) = some (r1, r2, r3) := H
              have A10 := Aside0.mk A100
              clear A100
              by_cases c11 : t388 = x8_1
              · rw [if_pos c11] at H
                have c11b0 : (t388 == x8_1) = true := beq_iff_eq.mpr c11
                have c11b1 : (t388 != x8_1) = false := bne_eq_false_iff_eq.mpr c11
                clear c11
                simp only [Option.some.injEq, Prod.mk.injEq] at H
                obtain ⟨rfl, rfl, rfl⟩ := H
                go_wp2_with (first | ((with_reducible refine gate_callee (f := 78) rfl ?_); refine goesL_ (some 34) rfl rfl Try.func78 (by kernel_rfl) rfl #[.string t385] rfl (by (try simp only [List.map_toArray, List.map_cons, List.map_nil]); first | done | rfl | (simp only [List.length_drop, List.length_take]; rfl)) ?_; (with_reducible refine (crc_Sum.calls t385 t388 _ A10.out).mono ?_); rintro e w12 ⟨rfl, hb⟩; refine ⟨_, rfl, ?_⟩; have n0_ := Aside0.mk (below_step (by repeat (first | (with_reducible first | exact HB.out | apply below_alloc | apply pw_below_drewN | apply below_drew1) | exact HB.out)) hb); clear HB; have HB := n0_; clear n0_; (try clear hb); (try clear hb2); (try clear hk); (try clear hi)))
                go_ret3
                exact ⟨by first | rfl | (simp [errW_none, errW_some] <;> rfl) | (simp [*, errW_none, errW_some] <;> rfl), by repeat (first | (with_reducible first | exact HB.out | apply below_alloc | apply pw_below_drewN | apply below_drew1) | exact HB.out)⟩
              · rw [if_neg c11] at H
                have c11b0 : (t388 == x8_1) = false := beq_eq_false_iff_ne.mpr c11
                have c11b1 : (t388 != x8_1) = true := bne_iff_ne.mpr c11
                simp only [Option.some.injEq, Prod.mk.injEq] at H
                obtain ⟨rfl, rfl, rfl⟩ := H
                go_wp2_with (first | ((with_reducible refine gate_callee (f := 78) rfl ?_); refine goesL_ (some 34) rfl rfl Try.func78 (by kernel_rfl) rfl #[.string t385] rfl (by (try simp only [List.map_toArray, List.map_cons, List.map_nil]); first | done | rfl | (simp only [List.length_drop, List.length_take]; rfl)) ?_; (with_reducible refine (crc_Sum.calls t385 t388 _ A10.out).mono ?_); rintro e w13 ⟨rfl, hb⟩; refine ⟨_, rfl, ?_⟩; have n0_ := Aside0.mk (below_step (by repeat (first | (with_reducible first | exact HB.out | apply below_alloc | apply pw_below_drewN | apply below_drew1) | exact HB.out)) hb); clear HB; have HB := n0_; clear n0_; (try clear hb); (try clear hb2); (try clear hk); (try clear hi)))
                go_ret3
                exact ⟨by first | rfl | (simp [errW_none, errW_some] <;> rfl) | (simp [*, errW_none, errW_some] <;> rfl), by repeat (first | (with_reducible first | exact HB.out | apply below_alloc | apply pw_below_drewN | apply below_drew1) | exact HB.out)⟩
      · replace c5 := Bool.eq_false_iff.mpr c5
        subst c5
        have H1 : (some ((⟨#[]⟩ : ByteArray), (⟨#[]⟩ : ByteArray), 30)) = some (r1, r2, r3) := by rw [if_neg (show ¬ (false = true) by decide)] at H; exact H
        clear H
        have H := H1
        clear H1
        simp only [Option.some.injEq, Prod.mk.injEq] at H
        obtain ⟨rfl, rfl, rfl⟩ := H
        go_enter Try.func71, Try.ntmps71
        go_wp2_with (first | ((with_reducible refine gate_callee (f := 80) rfl ?_); refine goesL_ (some 16) rfl rfl Try.func80 (by kernel_rfl) rfl #[.string (a0.extract 4 a0.size)] rfl (by (try simp only [List.map_toArray, List.map_cons, List.map_nil]); first | done | rfl | (simp only [List.length_drop, List.length_take]; rfl)) ?_; (with_reducible refine (codec_GetText.calls (a0.extract 4 a0.size) t385 t386 false _ A4.out).mono ?_); rintro e w' ⟨rfl, ⟨nd, rfl⟩⟩; refine ⟨_, rfl, ?_⟩))
        go_ret3
        exact ⟨by first | rfl | (simp [errW_none, errW_some] <;> rfl) | (simp [*, errW_none, errW_some] <;> rfl), by repeat (first | (with_reducible first | exact HB.out | apply below_alloc | apply pw_below_drewN | apply below_drew1) | exact HB.out)⟩
    · rw [if_neg c3] at H
      exact absurd H (by simp)

end Go.Proofs.Ytoibofhmlokglaa.P
/-
  Frames, told plainly: what is put is got.
-/
namespace Go.Proofs.Ytoibofhmlokglaa.P
open Go.RowKit Go.Proofs.CodecPlain Go.Proofs.YtoibofhmlokglaaW.PrintWords Go.Proofs.YtoibofhmlokglaaW.PrintLast Go.Proofs.Ytoibofhmlokglaa.B

def In32 (x : Int) : Prop := 0 ≤ x ∧ x < 4294967296

theorem xor_rng {x y : Int} (hx : In32 x) (hy : In32 y) : In32 (bits BinOp.xor IntKind.i64 x y) := by
  obtain ⟨a, rfl⟩ : ∃ a : Nat, x = a := ⟨x.toNat, by have := hx.1; omega⟩
  obtain ⟨b, rfl⟩ : ∃ b : Nat, y = b := ⟨y.toNat, by have := hy.1; omega⟩
  have ha : a < 2 ^ 32 := by have := hx.2; omega
  have hb : b < 2 ^ 32 := by have := hy.2; omega
  have hn : (BitVec.ofInt 64 (a : Int) ^^^ BitVec.ofInt 64 (b : Int)).toNat < 2 ^ 32 := by
    rw [BitVec.toNat_xor]
    refine Nat.xor_lt_two_pow ?_ ?_
    · simp [BitVec.toNat_ofInt]; omega
    · simp [BitVec.toNat_ofInt]; omega
  show In32 (IntKind.wrap .i64 (((BitVec.ofInt 64 (a : Int) ^^^ BitVec.ofInt 64 (b : Int)).toNat : Nat) : Int))
  generalize (BitVec.ofInt 64 (a : Int) ^^^ BitVec.ofInt 64 (b : Int)).toNat = n at *
  have : IntKind.wrap .i64 (n : Int) = n := by
    simp [IntKind.wrap, IntKind.signed, IntKind.bits]
    omega
  unfold In32
  omega

theorem crc1_rng {c : Int} (h : In32 c) : In32 (crc1 c) := by
  have h2 : In32 (c / 2) := by unfold In32 at *; omega
  unfold crc1
  split
  · exact xor_rng h2 ⟨by omega, by omega⟩
  · exact h2

theorem crcN_rng {c : Int} (h : In32 c) : ∀ n, In32 (crcN n c)
  | 0 => h
  | n + 1 => crc1_rng (crcN_rng h n)

theorem stepV_rng {c b : Int} (h : In32 c) : In32 (stepV c b) := by
  unfold stepV
  have := and255 (bits BinOp.xor IntKind.i64 c b)
  refine xor_rng ?_ ?_
  · unfold In32 at *; omega
  · refine crcN_rng ?_ 8
    unfold stepI In32
    omega

theorem sumC_rng : ∀ (l : List UInt8) {c : Int}, In32 c → In32 (sumC l c)
  | [], c, h => h
  | b :: l, c, h => sumC_rng l (stepV_rng h)

theorem sumV_rng (s : ByteArray) : In32 (sumV s) := xor_rng (sumC_rng _ ⟨by omega, by omega⟩) ⟨by omega, by omega⟩

def fourS (n : Int) : ByteArray := strOfNums [(n / 16777216) % 256, (n / 65536) % 256, (n / 256) % 256, n % 256]

def frameOf (t : ByteArray) : ByteArray := fourS (sumV t) ++ textStr t

theorem four_size (n : Int) : (fourS n).size = 4 := by unfold fourS; rw [strOfNums_size]; rfl

theorem frame_size (t : ByteArray) : 5 ≤ (frameOf t).size ∧ (frameOf t).size ≤ t.size + 9 := by
  unfold frameOf
  rw [CodecPlain.size_append, four_size]
  have := textStr_size t
  have h2 : 1 ≤ (textStr t).size := by unfold textStr; rw [CodecPlain.size_append]; have := numStr_size (t.size : Int); omega
  omega

theorem put_f (s : ByteArray) : crc_Put.f s = some (if s.size ≤ 4000 then (frameOf s, 0) else (⟨#[]⟩, 2)) := by
  unfold crc_Put.f
  rw [text_f]
  simp only [Option.bind_some]
  by_cases h : s.size ≤ 4000
  · rw [if_pos h, if_pos h, if_pos rfl]
    unfold crc_Sum.f
    rw [if_pos (by omega)]
    simp only [Option.bind_some]
    rw [if_pos (by have := textStr_size s; rw [strOfNums_size]; simp; omega)]
    rfl
  · rw [if_neg h, if_neg h, if_neg (by decide)]

def noFrame : ByteArray × ByteArray × Int := (⟨#[]⟩, ⟨#[]⟩, 30)

def getFrame (s : ByteArray) : ByteArray × ByteArray × Int :=
  if s.size < 4 then noFrame
  else if (getText (s.extract 4 s.size)).2.2 = true then
    (if sumV (getText (s.extract 4 s.size)).1 = accB (s.data.toList.take 4) then ((getText (s.extract 4 s.size)).1, (getText (s.extract 4 s.size)).2.1, 0) else noFrame)
  else noFrame

theorem get_l0 (s t rest : ByteArray) (h4 : 4 ≤ s.size) (ht : t.size ≤ 1000000000) (d : Nat) : ∀ i : Nat, i + d = 4 →
    Ev (fun r => crc_Get.l0 r s t rest (accB (s.data.toList.take i)) (i : Int)) (if sumV t = accB (s.data.toList.take 4) then (t, rest, 0) else noFrame) := by
  induction d with
  | zero =>
    intro i hi
    obtain rfl : i = 4 := by omega
    refine Ev.step (f := fun _ => some (if sumV t = accB (s.data.toList.take 4) then (t, rest, 0) else noFrame)) (fun r => ?_) (Ev.now _)
    simp only [crc_Get.l0]
    rw [if_neg (by decide)]
    unfold crc_Sum.f
    rw [if_pos ht]
    simp only [Option.bind_some]
    split <;> rfl
  | succ d ih =>
    intro i hi
    have hlt : i < s.size := by omega
    have hl : i < s.data.toList.length := by rw [len_list]; exact hlt
    have hb := accB_bd (s.data.toList.take i)
    have hlen : (s.data.toList.take i).length = i := by rw [List.length_take, len_list]; omega
    rw [hlen] at hb
    have hp : (256 : Int) ^ i ≤ 16777216 := by
      match i, (show i < 4 by omega) with
      | 0, _ => decide
      | 1, _ => decide
      | 2, _ => decide
      | 3, _ => decide
    have hby := s.data.toList[i].toNat_lt
    refine Ev.step (f := fun r => crc_Get.l0 r s t rest (accB (s.data.toList.take (i + 1))) ((i + 1 : Nat) : Int)) (fun r => ?_) (ih (i + 1) (by omega))
    simp only [crc_Get.l0]
    rw [if_pos (by omega), if_pos (by omega), if_pos (by omega), wrap_bt, bt_list s i hl, wrap_id (by omega) (by omega), or_byte _ _ hb.1 (by omega) (by omega) (by omega), wrap_id (by omega) (by omega), List.take_succ_eq_append_getElem hl, accB_snoc]
    rfl

theorem get_ev (s : ByteArray) : Ev (fun k => crc_Get.f k s) (getFrame s) := by
  unfold getFrame
  by_cases h4 : s.size < 4
  · rw [if_pos h4]
    exact Ev.congr (f := fun _ => some noFrame) (fun k => by unfold crc_Get.f; rw [if_pos (by omega)]; rfl) (Ev.now _)
  · rw [if_neg h4]
    by_cases ht : (getText (s.extract 4 s.size)).2.2 = true
    · rw [if_pos ht]
      have hsz : (getText (s.extract 4 s.size)).1.size ≤ 4000 := (getText_got (s := s.extract 4 s.size) (t := (getText (s.extract 4 s.size)).1) (rest := (getText (s.extract 4 s.size)).2.1) (by rw [← ht])).1
      have := get_l0 s (getText (s.extract 4 s.size)).1 (getText (s.extract 4 s.size)).2.1 (by omega) (by omega) 4 0 (by omega)
      refine Ev.congr (f := fun r => crc_Get.l0 r s (getText (s.extract 4 s.size)).1 (getText (s.extract 4 s.size)).2.1 0 0) (fun k => ?_) this
      unfold crc_Get.f
      rw [if_neg (by omega), if_pos (by omega), getText_f]
      simp only [Option.bind_some]
      rw [if_pos ht]
    · rw [if_neg ht]
      refine Ev.congr (f := fun _ => some noFrame) (fun k => ?_) (Ev.now _)
      unfold crc_Get.f
      rw [if_neg (by omega), if_pos (by omega), getText_f]
      simp only [Option.bind_some]
      rw [if_neg ht]
      rfl

theorem accB_four (a b c d : Int) (ha : 0 ≤ a ∧ a < 256) (hb : 0 ≤ b ∧ b < 256) (hc : 0 ≤ c ∧ c < 256) (hd : 0 ≤ d ∧ d < 256) : accB [u8 a, u8 b, u8 c, u8 d] = ((a * 256 + b) * 256 + c) * 256 + d := by
  simp only [accB, List.foldl_cons, List.foldl_nil]
  rw [u8_toNat ha.1 ha.2, u8_toNat hb.1 hb.2, u8_toNat hc.1 hc.2, u8_toNat hd.1 hd.2]
  omega

theorem four_list (n : Int) : (fourS n).data.toList = [u8 ((n / 16777216) % 256), u8 ((n / 65536) % 256), u8 ((n / 256) % 256), u8 (n % 256)] := by
  unfold fourS; rw [strOfNums_list]; rfl

theorem getFrame_put (t : ByteArray) (h : t.size ≤ 4000) (rest : ByteArray) : getFrame (frameOf t ++ rest) = (t, rest, 0) := by
  have hs := frame_size t
  have hr := sumV_rng t
  unfold In32 at hr
  have hl : (frameOf t ++ rest).data.toList = [u8 ((sumV t / 16777216) % 256), u8 ((sumV t / 65536) % 256), u8 ((sumV t / 256) % 256), u8 (sumV t % 256)] ++ (textStr t ++ rest).data.toList := by
    unfold frameOf
    simp only [app_list, four_list, List.append_assoc]
  have he : (frameOf t ++ rest).extract 4 (frameOf t ++ rest).size = textStr t ++ rest := by
    apply ba_ext
    rw [ext_list, hl]
    have : (frameOf t ++ rest).size = 4 + (textStr t ++ rest).data.toList.length := by
      rw [len_list, CodecPlain.size_append, CodecPlain.size_append]
      unfold frameOf
      rw [CodecPlain.size_append, four_size]
      omega
    rw [this]
    show (textStr t ++ rest).data.toList.take (4 + (textStr t ++ rest).data.toList.length - 4) = (textStr t ++ rest).data.toList
    rw [List.take_of_length_le (by omega)]
  unfold getFrame
  rw [if_neg (by rw [CodecPlain.size_append]; omega), he, getText_put t h rest]
  simp only [if_true]
  rw [if_pos]
  rw [hl]
  show sumV t = accB [u8 ((sumV t / 16777216) % 256), u8 ((sumV t / 65536) % 256), u8 ((sumV t / 256) % 256), u8 (sumV t % 256)]
  rw [accB_four _ _ _ _ (by omega) (by omega) (by omega) (by omega)]
  omega

theorem getFrame_got {s t rest : ByteArray} (h : getFrame s = (t, rest, 0)) : t.size ≤ 4000 ∧ s = frameOf t ++ rest := by
  unfold getFrame at h
  by_cases h4 : s.size < 4
  · rw [if_pos h4] at h; simp [noFrame] at h
  · rw [if_neg h4] at h
    by_cases ht : (getText (s.extract 4 s.size)).2.2 = true
    · rw [if_pos ht] at h
      by_cases hs : sumV (getText (s.extract 4 s.size)).1 = accB (s.data.toList.take 4)
      · rw [if_pos hs] at h
        simp only [Prod.mk.injEq, and_true] at h
        obtain ⟨h1, h2⟩ := h
        have hg : getText (s.extract 4 s.size) = (t, rest, true) := by rw [← h1, ← h2, ← ht]
        obtain ⟨hz, hx⟩ := getText_got hg
        refine ⟨hz, ba_ext ?_⟩
        rw [h1] at hs
        have hsp : s.data.toList = s.data.toList.take 4 ++ s.data.toList.drop 4 := (List.take_append_drop 4 _).symm
        have hd : s.data.toList.drop 4 = (textStr t ++ rest).data.toList := by
          rw [← hx, ext_list, List.take_of_length_le (by rw [List.length_drop, len_list]; omega)]
        obtain ⟨b0, b1, b2, b3, hb⟩ : ∃ b0 b1 b2 b3, s.data.toList.take 4 = [b0, b1, b2, b3] := by
          have hlen : (s.data.toList.take 4).length = 4 := by rw [List.length_take, len_list]; omega
          match s.data.toList.take 4, hlen with
          | [b0, b1, b2, b3], _ => exact ⟨b0, b1, b2, b3, rfl⟩
        rw [hsp, hd, hb]
        unfold frameOf
        simp only [app_list, four_list, List.append_assoc]
        rw [hb] at hs
        have q0 := b0.toNat_lt; have q1 := b1.toNat_lt; have q2 := b2.toNat_lt; have q3 := b3.toNat_lt
        have hv : accB [b0, b1, b2, b3] = (((b0.toNat : Int) * 256 + b1.toNat) * 256 + b2.toNat) * 256 + b3.toNat := by
          simp only [accB, List.foldl_cons, List.foldl_nil]; omega
        rw [hs, hv]
        have e0 : ((((b0.toNat : Int) * 256 + b1.toNat) * 256 + b2.toNat) * 256 + b3.toNat) / 16777216 % 256 = b0.toNat := by omega
        have e1 : ((((b0.toNat : Int) * 256 + b1.toNat) * 256 + b2.toNat) * 256 + b3.toNat) / 65536 % 256 = b1.toNat := by omega
        have e2 : ((((b0.toNat : Int) * 256 + b1.toNat) * 256 + b2.toNat) * 256 + b3.toNat) / 256 % 256 = b2.toNat := by omega
        have e3 : ((((b0.toNat : Int) * 256 + b1.toNat) * 256 + b2.toNat) * 256 + b3.toNat) % 256 = b3.toNat := by omega
        rw [e0, e1, e2, e3, u8_of, u8_of, u8_of, u8_of]
      · rw [if_neg hs] at h; simp [noFrame] at h
    · rw [if_neg ht] at h; simp [noFrame] at h

theorem getFrame_no {s : ByteArray} (h : (getFrame s).2.2 ≠ 0) : getFrame s = noFrame := by
  unfold getFrame at h ⊢
  split
  · rfl
  · rename_i h4
    rw [if_neg h4] at h
    split
    · rename_i ht
      rw [if_pos ht] at h
      split
      · rename_i hs; rw [if_pos hs] at h; exact absurd rfl h
      · rfl
    · rfl

theorem getFrame_less {s : ByteArray} (h : (getFrame s).2.2 = 0) : (getFrame s).2.1.size + 5 ≤ s.size := by
  have hg := (getFrame_got (s := s) (t := (getFrame s).1) (rest := (getFrame s).2.1) (by rw [← h])).2
  have := frame_size (getFrame s).1
  have hz : s.size = (frameOf (getFrame s).1).size + (getFrame s).2.1.size := by rw [← CodecPlain.size_append, ← hg]
  omega
end Go.Proofs.Ytoibofhmlokglaa.P
/-
  wal.read, by hand: a record's mark, and its text.
-/
namespace Go.Proofs.Ytoibofhmlokglaa.P
open Go.RowKit Go.Proofs Go.Proofs.CodecPlain Go.Proofs.YtoibofhmlokglaaW.PrintWords Go.Proofs.YtoibofhmlokglaaW.PrintLast Go.Proofs.Plain

/-- What a block says: an epoch, a place, a text; whether it is a record. -/
def recW (s : ByteArray) : Int × Int × ByteArray × Bool :=
  if (getFrame s).2.2 = 0 ∧ (getFrame s).2.1 = ⟨#[]⟩ then
    ((getNum (getFrame s).1).1, (getNum (getNum (getFrame s).1).2.1).1, (getNum (getNum (getFrame s).1).2.1).2.1, (getNum (getFrame s).1).2.2 && ((getNum (getNum (getFrame s).1).2.1).2.2 && decide ((getNum (getNum (getFrame s).1).2.1).2.1.size ≤ 200)))
  else (0, 0, ⟨#[]⟩, false)

set_option maxHeartbeats 4000000 in
theorem wal_read_calls (s : ByteArray) (w : World) : Calls Try.prog 63 #[.string s] w fun e w' => e = .returned (.tuple #[.agg #[.int .i64 (recW s).1, .int .i64 (recW s).2.1], .string (recW s).2.2.1, .bool (recW s).2.2.2]) ∧ Below w.heap.size w w' := by
  obtain ⟨K, hK⟩ := get_ev s
  have hK' := hK K (Nat.le_refl _)
  simp only at hK'
  obtain ⟨⟨t, rest, e⟩, hg⟩ : ∃ p, p = getFrame s := ⟨_, rfl⟩
  have HG := Aside0.mk (fun W => crc_Get.calls K s t rest e W (by rw [hK', ← hg]))
  have HB0 := Aside0.mk ((Below.refl w.heap.size w).alloc (Nat.le_refl _) (.cells #[.int .i64 0, .int .i64 0] 75))
  have HM0 := Aside0.mk (blk_new w (.cells #[.int .i64 0, .int .i64 0] 75))
  obtain ⟨r, hr⟩ : ∃ r, r = recW s := ⟨_, rfl⟩
  unfold recW at hr
  rw [← hg] at hr
  rw [show recW s = r by rw [hr]; unfold recW; rw [← hg]]
  simp only at hr
  clear hK hK' hg
  by_cases he : e = 0
  rotate_left
  · rw [if_neg (fun q => he q.1)] at hr
    subst hr
    have hne : (e != 0) = true := by rw [bne_iff_ne]; exact he
    clear he
    go_enter Try.func63, Try.ntmps63
    go_wp2_with (go_at_call 71; (with_reducible refine (HG.out _).mono ?_); rintro e1 w1 ⟨rfl, hb⟩; have HB1 := Aside0.mk (HB0.out.trans (hb.mono (by simp))); have HM1 := Aside0.mk (blk_below HM0.out hb); clear hb; have m0 := blk_cell HM1.out 0; have m1 := blk_cell HM1.out 1; have f0 := blk_frozen HM1.out 0; have f1 := blk_frozen HM1.out 1)
    have HM2 := blk_set (blk_set HM1.out 0 (.int .i64 0)) 1 (.int .i64 0)
    have g0 := blk_cell HM2 0
    have g1 := blk_cell HM2 1
    have HB2 := (HB1.out.setCell (p := ⟨w.heap.size, 0, none⟩) (Nat.le_refl _) (.int .i64 0)).setCell (p := ⟨w.heap.size, 1, none⟩) (Nat.le_refl _) (.int .i64 0)
    refine bodyPost_ret (v := .tuple #[.agg #[.int .i64 0, .int .i64 0], .string ⟨#[]⟩, .bool false]) ?_ rfl ⟨rfl, HB2⟩
    simp [results, Try.results63, go_sem, g0, g1]
  subst he
  by_cases hrest : rest = ⟨#[]⟩
  rotate_left
  · rw [if_neg (fun q => hrest q.2)] at hr
    subst hr
    have hne3 : (rest.toList != ([] : List UInt8)) = true := by rw [bne_iff_ne]; intro h; rw [ByteArray.toList_eq] at h; exact hrest (ba_ext h)
    have hne4 : ¬ rest.toList = ([] : List UInt8) := by intro h; rw [ByteArray.toList_eq] at h; exact hrest (ba_ext h)
    have hne5 : rest.toList.isEmpty = false := by rw [List.isEmpty_eq_false_iff]; exact hne4
    clear hrest
    go_enter Try.func63, Try.ntmps63
    go_wp2_with (go_at_call 71; (with_reducible refine (HG.out _).mono ?_); rintro e1 w1 ⟨rfl, hb⟩; have HB1 := Aside0.mk (HB0.out.trans (hb.mono (by simp))); have HM1 := Aside0.mk (blk_below HM0.out hb); clear hb; have m0 := blk_cell HM1.out 0; have m1 := blk_cell HM1.out 1; have f0 := blk_frozen HM1.out 0; have f1 := blk_frozen HM1.out 1)
    have HM2 := blk_set (blk_set HM1.out 0 (.int .i64 0)) 1 (.int .i64 0)
    have g0 := blk_cell HM2 0
    have g1 := blk_cell HM2 1
    have HB2 := (HB1.out.setCell (p := ⟨w.heap.size, 0, none⟩) (Nat.le_refl _) (.int .i64 0)).setCell (p := ⟨w.heap.size, 1, none⟩) (Nat.le_refl _) (.int .i64 0)
    refine bodyPost_ret (v := .tuple #[.agg #[.int .i64 0, .int .i64 0], .string ⟨#[]⟩, .bool false]) ?_ rfl ⟨rfl, HB2⟩
    simp [results, Try.results63, go_sem, g0, g1]
  subst hrest
  rw [if_pos ⟨rfl, rfl⟩] at hr
  obtain ⟨n1, m1_, k1, h1⟩ : ∃ n m k, getNum t = (n, m, k) := ⟨_, _, _, rfl⟩
  rw [h1] at hr
  simp only at hr
  obtain ⟨n2, m2_, k2, h2⟩ : ∃ n m k, getNum m1_ = (n, m, k) := ⟨_, _, _, rfl⟩
  rw [h2] at hr
  simp only at hr
  subst hr
  have HN1 := Aside0.mk (fun W => codec_GetNumber.calls t n1 m1_ k1 W (congrArg some h1))
  have HN2 := Aside0.mk (fun W => codec_GetNumber.calls m1_ n2 m2_ k2 W (congrArg some h2))
  clear h1 h2
  by_cases hz : m2_.size ≤ 200
  · have hd1 : decide ((m2_.size : Int) ≤ 200) = true := decide_eq_true (by omega)
    have hd2 : decide ((200 : Int) < (m2_.size : Int)) = false := decide_eq_false (by omega)
    have hd3 : decide (m2_.size ≤ 200) = true := decide_eq_true hz
    have hd4 : decide (200 < m2_.size) = false := decide_eq_false (by omega)
    clear hz
    rw [hd3]
    cases k1 <;> cases k2
    all_goals
      go_enter Try.func63, Try.ntmps63
      go_wp2_with (first | (go_at_call 71; (with_reducible refine (HG.out _).mono ?_); rintro e1 w1 ⟨rfl, hb⟩; have HB1 := Aside0.mk (HB0.out.trans (hb.mono (by simp))); have HM1 := Aside0.mk (blk_below HM0.out hb); clear hb; have m0 := blk_cell HM1.out 0; have m1 := blk_cell HM1.out 1; have f0 := blk_frozen HM1.out 0; have f1 := blk_frozen HM1.out 1) | (go_at_call 72; (with_reducible refine (HN1.out _).mono ?_); rintro e1 w2 ⟨rfl, hb⟩; have HX2 := Aside0.mk hb.below; have HB3 := Aside0.mk (HB1.out.trans (HX2.out.mono HB1.out.size)); have HM3 := Aside0.mk (blk_below HM1.out HX2.out); clear hb) | (go_at_call 72; (with_reducible refine (HN2.out _).mono ?_); rintro e1 w3 ⟨rfl, hb⟩; have HX3 := Aside0.mk hb.below; have HB4 := Aside0.mk (HB3.out.trans (HX3.out.mono HB3.out.size)); have HM4 := Aside0.mk (blk_below HM3.out HX3.out); clear hb m0 m1 f0 f1; have m0 := blk_cell HM4.out 0; have m1 := blk_cell HM4.out 1; have f0 := blk_frozen HM4.out 0; have f1 := blk_frozen HM4.out 1))
      have HM5 := blk_set (blk_set HM4.out 0 (.int .i64 n1)) 1 (.int .i64 n2)
      have g0 := blk_cell HM5 0
      have g1 := blk_cell HM5 1
      have HB5 := (HB4.out.setCell (p := ⟨w.heap.size, 0, none⟩) (Nat.le_refl _) (.int .i64 n1)).setCell (p := ⟨w.heap.size, 1, none⟩) (Nat.le_refl _) (.int .i64 n2)
      refine bodyPost_ret ?_ rfl ⟨rfl, HB5⟩
      simp [results, Try.results63, go_sem, g0, g1]
  · have hd1 : decide ((m2_.size : Int) ≤ 200) = false := decide_eq_false (by omega)
    have hd2 : decide ((200 : Int) < (m2_.size : Int)) = true := decide_eq_true (by omega)
    have hd3 : decide (m2_.size ≤ 200) = false := decide_eq_false hz
    have hd4 : decide (200 < m2_.size) = true := decide_eq_true (by omega)
    clear hz
    rw [hd3]
    cases k1 <;> cases k2
    all_goals
      go_enter Try.func63, Try.ntmps63
      go_wp2_with (first | (go_at_call 71; (with_reducible refine (HG.out _).mono ?_); rintro e1 w1 ⟨rfl, hb⟩; have HB1 := Aside0.mk (HB0.out.trans (hb.mono (by simp))); have HM1 := Aside0.mk (blk_below HM0.out hb); clear hb; have m0 := blk_cell HM1.out 0; have m1 := blk_cell HM1.out 1; have f0 := blk_frozen HM1.out 0; have f1 := blk_frozen HM1.out 1) | (go_at_call 72; (with_reducible refine (HN1.out _).mono ?_); rintro e1 w2 ⟨rfl, hb⟩; have HX2 := Aside0.mk hb.below; have HB3 := Aside0.mk (HB1.out.trans (HX2.out.mono HB1.out.size)); have HM3 := Aside0.mk (blk_below HM1.out HX2.out); clear hb) | (go_at_call 72; (with_reducible refine (HN2.out _).mono ?_); rintro e1 w3 ⟨rfl, hb⟩; have HX3 := Aside0.mk hb.below; have HB4 := Aside0.mk (HB3.out.trans (HX3.out.mono HB3.out.size)); have HM4 := Aside0.mk (blk_below HM3.out HX3.out); clear hb m0 m1 f0 f1; have m0 := blk_cell HM4.out 0; have m1 := blk_cell HM4.out 1; have f0 := blk_frozen HM4.out 0; have f1 := blk_frozen HM4.out 1))
      have HM5 := blk_set (blk_set HM4.out 0 (.int .i64 n1)) 1 (.int .i64 n2)
      have g0 := blk_cell HM5 0
      have g1 := blk_cell HM5 1
      have HB5 := (HB4.out.setCell (p := ⟨w.heap.size, 0, none⟩) (Nat.le_refl _) (.int .i64 n1)).setCell (p := ⟨w.heap.size, 1, none⟩) (Nat.le_refl _) (.int .i64 n2)
      refine bodyPost_ret ?_ rfl ⟨rfl, HB5⟩
      simp [results, Try.results63, go_sem, g0, g1]
end Go.Proofs.Ytoibofhmlokglaa.P
-- Written by a program of this session (xprint.py) over the kit's print.py.
namespace Go.Proofs.Ytoibofhmlokglaa.P
open Go.RowKit Go.Proofs.YtoibofhmlokglaaW.PrintWords Go.Proofs.YtoibofhmlokglaaW.PrintLast Go.Proofs.YtoibofhmlokglaaW.PrintMore
attribute [local go_sem] max2_int min2_int max_two min_two max_three min_three max_four min_four   -- for this text's walks alone
set_option linter.unusedVariables false
set_option linter.unusedSimpArgs false

/-! ### disk_open: function 41 -/
def disk_open.f (l0_0 : List ByteArray) (l0_1 : List (S40)) (a1 : Int) : Option (Int) := (disk_Check.f l0_0 l0_1).bind fun t119 => (if t119 = true then (if a1 < 0 then (some 40) else (if a1 ≥ (l0_0.length : Int) then (some 40) else (some 0))) else (some 1))
set_option maxHeartbeats 8000000 in
set_option maxRecDepth 100000 in
theorem disk_open.calls (A0_0 : Option Addr) (c0_0 : Nat) (l0_0 : List ByteArray) (A0_1 : Option Addr) (c0_1 : Nat) (l0_1 : List (S40)) (a1 : Int) (r : Int) (w : World) (hr0_0 : Kd.C Kd.string w A0_0 l0_0.length l0_0) (hc0_0 : l0_0.length ≤ c0_0) (hr0_1 : Kd.C k40 w A0_1 l0_1.length l0_1) (hc0_1 : l0_1.length ≤ c0_1) (h : disk_open.f l0_0 l0_1 a1 = some r) :
    Calls Try.prog 41 #[.agg #[.slice A0_0 l0_0.length c0_0, .slice A0_1 l0_1.length c0_1], .int .i64 a1] w fun e w' => e = .returned (.int .i64 r) ∧ Below w.heap.size w w' := by
  have hu25 := Try.underlying25
  have HR0_0 := Aside0.mk hr0_0
  have HC0_0 := Aside0.mk hc0_0
  clear hr0_0 hc0_0
  have HR0_1 := Aside0.mk hr0_1
  have HC0_1 := Aside0.mk hc0_1
  clear hr0_1 hc0_1
  have HB := Aside0.mk (Below.refl w.heap.size w)
  have H : ((disk_Check.f l0_0 l0_1).bind fun t119 => (if t119 = true then (if a1 < 0 then (some 40) else (if a1 ≥ (l0_0.length : Int) then (some 40) else (some 0))) else (some 1))) = some r := h
  clear h
  replace H := Option.bind_eq_some_iff.mp H
  obtain ⟨t119, A30, H⟩ := H
  replace H : (if t119 = true then (if a1 < 0 then (some 40) else (if a1 ≥ (l0_0.length : Int) then (some 40) else (some 0))) else (some 1)) = some r := H
  have A3 := Aside0.mk A30
  clear A30
  by_cases c4 : t119 = true
  · subst c4
    have H1 : (if a1 < 0 then (some 40) else (if a1 ≥ (l0_0.length : Int) then (some 40) else (some 0))) = some r := by rw [if_pos rfl] at H; exact H
    clear H
    have H := H1
    clear H1
    by_cases c5 : a1 < 0
    · rw [if_pos c5] at H
      have c5b0 : decide (a1 < 0) = true := decide_eq_true c5
      clear c5
      obtain rfl := Option.some.inj H
      go_enter Try.func41, Try.ntmps41
      go_wp2_with (first | ((with_reducible refine gate_dst (N := 2) rfl ?_); (try (refine gate_guard (by rfl) ?_; dsimp only)); refine box_event ?hg (N := 2) ?hd (cs := #[.slice A0_0 l0_0.length c0_0, .slice A0_1 l0_1.length c0_1]) (t := 25) ?hr ?_; (case hd => rfl); (case hg => rfl); (case hr => first | (go_simp; done) | (go_simp; rfl)); intro gb118 hg w6 hbox hb; have n0_ := Aside0.mk (below_step (by repeat (first | (with_reducible first | exact HB.out | apply below_alloc | apply pw_below_drewN | apply below_drew1) | exact HB.out)) hb); have n1_ := Aside0.mk (hbox); have n2_ := Aside0.mk ((by rw [hg]; exact (below_size (by repeat (first | (with_reducible first | exact HB.out | apply below_alloc | apply pw_below_drewN | apply below_drew1) | exact HB.out))) : w.heap.size ≤ gb118)); have n3_ := Aside0.mk ((by rw [hg]; exact (below_size (by repeat (first | (with_reducible first | exact HB.out | apply below_alloc | apply pw_below_drewN | apply below_drew1) | exact HB.out))) : w.heap.size ≤ gb118)); clear HB; have HB := n0_; have BK118 := n1_; have GW118 := n2_; have GE118 := n3_; clear n0_ n1_ n2_ n3_; clear hb hbox hg; have hcz7_0 : w6.cell? ⟨gb118, 0, none⟩ = some (.slice A0_0 l0_0.length c0_0) := (blk_cell BK118.out 0).trans rfl; have hcz7_1 : w6.cell? ⟨gb118, 1, none⟩ = some (.slice A0_1 l0_1.length c0_1) := (blk_cell BK118.out 1).trans rfl; have hfz7_0 := blk_frozen BK118.out 0; have hfz7_1 := blk_frozen BK118.out 1) | ((with_reducible refine gate_callee (f := 24) rfl ?_); refine goesL_ (some 7) rfl rfl Try.func24 (by kernel_rfl) rfl #[.agg #[.slice A0_0 l0_0.length c0_0, .slice A0_1 l0_1.length c0_1]] rfl (by (try simp only [List.map_toArray, List.map_cons, List.map_nil]); first | done | rfl | (simp only [List.length_drop, List.length_take]; rfl)) ?_; (with_reducible refine (disk_Check.calls _ _ l0_0 _ _ l0_1 true _ ?side1 ?side2 ?side3 ?side4 A3.out).mono ?_); (case side1 => repeat (first | exact (Kd.C_below HR0_0.out HB.out) | (with_reducible refine Kd.C_alloc ?_ _) | (with_reducible refine Kd.C_drewN ?_ _) | (with_reducible refine Kd.C_drew ?_))); (case side2 => exact HC0_0.out); (case side3 => repeat (first | exact (Kd.C_below HR0_1.out HB.out) | (with_reducible refine Kd.C_alloc ?_ _) | (with_reducible refine Kd.C_drewN ?_ _) | (with_reducible refine Kd.C_drew ?_))); (case side4 => exact HC0_1.out); rintro e w8 ⟨rfl, hb⟩; refine ⟨_, rfl, ?_⟩; have n0_ := Aside0.mk (blk_below (g := gb118) (o := .cells #[.slice A0_0 l0_0.length c0_0, .slice A0_1 l0_1.length c0_1] 25 (0, 0)) (by (with_reducible repeat (first | refine blk_drewN ?_ _ | refine blk_drew ?_ | refine blk_alloc ?_ _)); exact BK118.out) hb); have n1_ := Aside0.mk (below_step (by repeat (first | (with_reducible first | exact HB.out | apply below_alloc | apply pw_below_drewN | apply below_drew1 | refine below_set ?_ GE118.out) | exact HB.out)) hb); clear BK118; clear HB; have BK118 := n0_; have HB := n1_; clear n0_ n1_; (try clear hb); (try clear hb2); (try clear hk); (try clear hi)))
      go_ret
      exact ⟨by first | rfl | (simp [errW_none, errW_some] <;> rfl) | (simp [*, errW_none, errW_some] <;> rfl), by repeat (first | (with_reducible first | exact HB.out | apply below_alloc | apply pw_below_drewN | apply below_drew1 | refine below_set ?_ GE118.out) | exact HB.out)⟩
    · rw [if_neg c5] at H
      have c5b0 : decide (a1 < 0) = false := decide_eq_false c5
      clear c5
      by_cases c9 : a1 ≥ (l0_0.length : Int)
      · rw [if_pos c9] at H
        have c9b0 : decide ((l0_0.length : Int) ≤ a1) = true := decide_eq_true c9
        clear c9
        obtain rfl := Option.some.inj H
        go_enter Try.func41, Try.ntmps41
        go_wp2_with (first | ((with_reducible refine gate_dst (N := 2) rfl ?_); (try (refine gate_guard (by rfl) ?_; dsimp only)); refine box_event ?hg (N := 2) ?hd (cs := #[.slice A0_0 l0_0.length c0_0, .slice A0_1 l0_1.length c0_1]) (t := 25) ?hr ?_; (case hd => rfl); (case hg => rfl); (case hr => first | (go_simp; done) | (go_simp; rfl)); intro gb118 hg w10 hbox hb; have n0_ := Aside0.mk (below_step (by repeat (first | (with_reducible first | exact HB.out | apply below_alloc | apply pw_below_drewN | apply below_drew1) | exact HB.out)) hb); have n1_ := Aside0.mk (hbox); have n2_ := Aside0.mk ((by rw [hg]; exact (below_size (by repeat (first | (with_reducible first | exact HB.out | apply below_alloc | apply pw_below_drewN | apply below_drew1) | exact HB.out))) : w.heap.size ≤ gb118)); have n3_ := Aside0.mk ((by rw [hg]; exact (below_size (by repeat (first | (with_reducible first | exact HB.out | apply below_alloc | apply pw_below_drewN | apply below_drew1) | exact HB.out))) : w.heap.size ≤ gb118)); clear HB; have HB := n0_; have BK118 := n1_; have GW118 := n2_; have GE118 := n3_; clear n0_ n1_ n2_ n3_; clear hb hbox hg; have hcz11_0 : w10.cell? ⟨gb118, 0, none⟩ = some (.slice A0_0 l0_0.length c0_0) := (blk_cell BK118.out 0).trans rfl; have hcz11_1 : w10.cell? ⟨gb118, 1, none⟩ = some (.slice A0_1 l0_1.length c0_1) := (blk_cell BK118.out 1).trans rfl; have hfz11_0 := blk_frozen BK118.out 0; have hfz11_1 := blk_frozen BK118.out 1) | ((with_reducible refine gate_callee (f := 24) rfl ?_); refine goesL_ (some 7) rfl rfl Try.func24 (by kernel_rfl) rfl #[.agg #[.slice A0_0 l0_0.length c0_0, .slice A0_1 l0_1.length c0_1]] rfl (by (try simp only [List.map_toArray, List.map_cons, List.map_nil]); first | done | rfl | (simp only [List.length_drop, List.length_take]; rfl)) ?_; (with_reducible refine (disk_Check.calls _ _ l0_0 _ _ l0_1 true _ ?side1 ?side2 ?side3 ?side4 A3.out).mono ?_); (case side1 => repeat (first | exact (Kd.C_below HR0_0.out HB.out) | (with_reducible refine Kd.C_alloc ?_ _) | (with_reducible refine Kd.C_drewN ?_ _) | (with_reducible refine Kd.C_drew ?_))); (case side2 => exact HC0_0.out); (case side3 => repeat (first | exact (Kd.C_below HR0_1.out HB.out) | (with_reducible refine Kd.C_alloc ?_ _) | (with_reducible refine Kd.C_drewN ?_ _) | (with_reducible refine Kd.C_drew ?_))); (case side4 => exact HC0_1.out); rintro e w12 ⟨rfl, hb⟩; refine ⟨_, rfl, ?_⟩; have n0_ := Aside0.mk (blk_below (g := gb118) (o := .cells #[.slice A0_0 l0_0.length c0_0, .slice A0_1 l0_1.length c0_1] 25 (0, 0)) (by (with_reducible repeat (first | refine blk_drewN ?_ _ | refine blk_drew ?_ | refine blk_alloc ?_ _)); exact BK118.out) hb); have n1_ := Aside0.mk (below_step (by repeat (first | (with_reducible first | exact HB.out | apply below_alloc | apply pw_below_drewN | apply below_drew1 | refine below_set ?_ GE118.out) | exact HB.out)) hb); clear BK118; clear HB; have BK118 := n0_; have HB := n1_; clear n0_ n1_; (try clear hb); (try clear hb2); (try clear hk); (try clear hi); have hcz13_0 : w12.cell? ⟨gb118, 0, none⟩ = some (.slice A0_0 l0_0.length c0_0) := (blk_cell BK118.out 0).trans rfl; have hcz13_1 : w12.cell? ⟨gb118, 1, none⟩ = some (.slice A0_1 l0_1.length c0_1) := (blk_cell BK118.out 1).trans rfl; have hfz13_0 := blk_frozen BK118.out 0; have hfz13_1 := blk_frozen BK118.out 1))
        go_ret
        exact ⟨by first | rfl | (simp [errW_none, errW_some] <;> rfl) | (simp [*, errW_none, errW_some] <;> rfl), by repeat (first | (with_reducible first | exact HB.out | apply below_alloc | apply pw_below_drewN | apply below_drew1 | refine below_set ?_ GE118.out) | exact HB.out)⟩
      · rw [if_neg c9] at H
        have c9b0 : decide ((l0_0.length : Int) ≤ a1) = false := decide_eq_false c9
        clear c9
        obtain rfl := Option.some.inj H
        go_enter Try.func41, Try.ntmps41
        go_wp2_with (first | ((with_reducible refine gate_dst (N := 2) rfl ?_); (try (refine gate_guard (by rfl) ?_; dsimp only)); refine box_event ?hg (N := 2) ?hd (cs := #[.slice A0_0 l0_0.length c0_0, .slice A0_1 l0_1.length c0_1]) (t := 25) ?hr ?_; (case hd => rfl); (case hg => rfl); (case hr => first | (go_simp; done) | (go_simp; rfl)); intro gb118 hg w14 hbox hb; have n0_ := Aside0.mk (below_step (by repeat (first | (with_reducible first | exact HB.out | apply below_alloc | apply pw_below_drewN | apply below_drew1) | exact HB.out)) hb); have n1_ := Aside0.mk (hbox); have n2_ := Aside0.mk ((by rw [hg]; exact (below_size (by repeat (first | (with_reducible first | exact HB.out | apply below_alloc | apply pw_below_drewN | apply below_drew1) | exact HB.out))) : w.heap.size ≤ gb118)); have n3_ := Aside0.mk ((by rw [hg]; exact (below_size (by repeat (first | (with_reducible first | exact HB.out | apply below_alloc | apply pw_below_drewN | apply below_drew1) | exact HB.out))) : w.heap.size ≤ gb118)); clear HB; have HB := n0_; have BK118 := n1_; have GW118 := n2_; have GE118 := n3_; clear n0_ n1_ n2_ n3_; clear hb hbox hg; have hcz15_0 : w14.cell? ⟨gb118, 0, none⟩ = some (.slice A0_0 l0_0.length c0_0) := (blk_cell BK118.out 0).trans rfl; have hcz15_1 : w14.cell? ⟨gb118, 1, none⟩ = some (.slice A0_1 l0_1.length c0_1) := (blk_cell BK118.out 1).trans rfl; have hfz15_0 := blk_frozen BK118.out 0; have hfz15_1 := blk_frozen BK118.out 1) | ((with_reducible refine gate_callee (f := 24) rfl ?_); refine goesL_ (some 7) rfl rfl Try.func24 (by kernel_rfl) rfl #[.agg #[.slice A0_0 l0_0.length c0_0, .slice A0_1 l0_1.length c0_1]] rfl (by (try simp only [List.map_toArray, List.map_cons, List.map_nil]); first | done | rfl | (simp only [List.length_drop, List.length_take]; rfl)) ?_; (with_reducible refine (disk_Check.calls _ _ l0_0 _ _ l0_1 true _ ?side1 ?side2 ?side3 ?side4 A3.out).mono ?_); (case side1 => repeat (first | exact (Kd.C_below HR0_0.out HB.out) | (with_reducible refine Kd.C_alloc ?_ _) | (with_reducible refine Kd.C_drewN ?_ _) | (with_reducible refine Kd.C_drew ?_))); (case side2 => exact HC0_0.out); (case side3 => repeat (first | exact (Kd.C_below HR0_1.out HB.out) | (with_reducible refine Kd.C_alloc ?_ _) | (with_reducible refine Kd.C_drewN ?_ _) | (with_reducible refine Kd.C_drew ?_))); (case side4 => exact HC0_1.out); rintro e w16 ⟨rfl, hb⟩; refine ⟨_, rfl, ?_⟩; have n0_ := Aside0.mk (blk_below (g := gb118) (o := .cells #[.slice A0_0 l0_0.length c0_0, .slice A0_1 l0_1.length c0_1] 25 (0, 0)) (by (with_reducible repeat (first | refine blk_drewN ?_ _ | refine blk_drew ?_ | refine blk_alloc ?_ _)); exact BK118.out) hb); have n1_ := Aside0.mk (below_step (by repeat (first | (with_reducible first | exact HB.out | apply below_alloc | apply pw_below_drewN | apply below_drew1 | refine below_set ?_ GE118.out) | exact HB.out)) hb); clear BK118; clear HB; have BK118 := n0_; have HB := n1_; clear n0_ n1_; (try clear hb); (try clear hb2); (try clear hk); (try clear hi); have hcz17_0 : w16.cell? ⟨gb118, 0, none⟩ = some (.slice A0_0 l0_0.length c0_0) := (blk_cell BK118.out 0).trans rfl; have hcz17_1 : w16.cell? ⟨gb118, 1, none⟩ = some (.slice A0_1 l0_1.length c0_1) := (blk_cell BK118.out 1).trans rfl; have hfz17_0 := blk_frozen BK118.out 0; have hfz17_1 := blk_frozen BK118.out 1))
        go_ret
        exact ⟨by first | rfl | (simp [errW_none, errW_some] <;> rfl) | (simp [*, errW_none, errW_some] <;> rfl), by repeat (first | (with_reducible first | exact HB.out | apply below_alloc | apply pw_below_drewN | apply below_drew1 | refine below_set ?_ GE118.out) | exact HB.out)⟩
  · replace c4 := Bool.eq_false_iff.mpr c4
    subst c4
    have H1 : (some 1) = some r := by rw [if_neg (show ¬ (false = true) by decide)] at H; exact H
    clear H
    have H := H1
    clear H1
    obtain rfl := Option.some.inj H
    go_enter Try.func41, Try.ntmps41
    go_wp2_with (first | ((with_reducible refine gate_dst (N := 2) rfl ?_); (try (refine gate_guard (by rfl) ?_; dsimp only)); refine box_event ?hg (N := 2) ?hd (cs := #[.slice A0_0 l0_0.length c0_0, .slice A0_1 l0_1.length c0_1]) (t := 25) ?hr ?_; (case hd => rfl); (case hg => rfl); (case hr => first | (go_simp; done) | (go_simp; rfl)); intro gb118 hg w18 hbox hb; have n0_ := Aside0.mk (below_step (by repeat (first | (with_reducible first | exact HB.out | apply below_alloc | apply pw_below_drewN | apply below_drew1) | exact HB.out)) hb); have n1_ := Aside0.mk (hbox); have n2_ := Aside0.mk ((by rw [hg]; exact (below_size (by repeat (first | (with_reducible first | exact HB.out | apply below_alloc | apply pw_below_drewN | apply below_drew1) | exact HB.out))) : w.heap.size ≤ gb118)); have n3_ := Aside0.mk ((by rw [hg]; exact (below_size (by repeat (first | (with_reducible first | exact HB.out | apply below_alloc | apply pw_below_drewN | apply below_drew1) | exact HB.out))) : w.heap.size ≤ gb118)); clear HB; have HB := n0_; have BK118 := n1_; have GW118 := n2_; have GE118 := n3_; clear n0_ n1_ n2_ n3_; clear hb hbox hg; have hcz19_0 : w18.cell? ⟨gb118, 0, none⟩ = some (.slice A0_0 l0_0.length c0_0) := (blk_cell BK118.out 0).trans rfl; have hcz19_1 : w18.cell? ⟨gb118, 1, none⟩ = some (.slice A0_1 l0_1.length c0_1) := (blk_cell BK118.out 1).trans rfl; have hfz19_0 := blk_frozen BK118.out 0; have hfz19_1 := blk_frozen BK118.out 1) | ((with_reducible refine gate_callee (f := 24) rfl ?_); refine goesL_ (some 7) rfl rfl Try.func24 (by kernel_rfl) rfl #[.agg #[.slice A0_0 l0_0.length c0_0, .slice A0_1 l0_1.length c0_1]] rfl (by (try simp only [List.map_toArray, List.map_cons, List.map_nil]); first | done | rfl | (simp only [List.length_drop, List.length_take]; rfl)) ?_; (with_reducible refine (disk_Check.calls _ _ l0_0 _ _ l0_1 false _ ?side1 ?side2 ?side3 ?side4 A3.out).mono ?_); (case side1 => repeat (first | exact (Kd.C_below HR0_0.out HB.out) | (with_reducible refine Kd.C_alloc ?_ _) | (with_reducible refine Kd.C_drewN ?_ _) | (with_reducible refine Kd.C_drew ?_))); (case side2 => exact HC0_0.out); (case side3 => repeat (first | exact (Kd.C_below HR0_1.out HB.out) | (with_reducible refine Kd.C_alloc ?_ _) | (with_reducible refine Kd.C_drewN ?_ _) | (with_reducible refine Kd.C_drew ?_))); (case side4 => exact HC0_1.out); rintro e w20 ⟨rfl, hb⟩; refine ⟨_, rfl, ?_⟩; have n0_ := Aside0.mk (blk_below (g := gb118) (o := .cells #[.slice A0_0 l0_0.length c0_0, .slice A0_1 l0_1.length c0_1] 25 (0, 0)) (by (with_reducible repeat (first | refine blk_drewN ?_ _ | refine blk_drew ?_ | refine blk_alloc ?_ _)); exact BK118.out) hb); have n1_ := Aside0.mk (below_step (by repeat (first | (with_reducible first | exact HB.out | apply below_alloc | apply pw_below_drewN | apply below_drew1 | refine below_set ?_ GE118.out) | exact HB.out)) hb); clear BK118; clear HB; have BK118 := n0_; have HB := n1_; clear n0_ n1_; (try clear hb); (try clear hb2); (try clear hk); (try clear hi)))
    go_ret
    exact ⟨by first | rfl | (simp [errW_none, errW_some] <;> rfl) | (simp [*, errW_none, errW_some] <;> rfl), by repeat (first | (with_reducible first | exact HB.out | apply below_alloc | apply pw_below_drewN | apply below_drew1 | refine below_set ?_ GE118.out) | exact HB.out)⟩

end Go.Proofs.Ytoibofhmlokglaa.P
/-
  disk.Write, by hand. For every disk, number and text.
-/
namespace Go.Proofs.Ytoibofhmlokglaa.P
open Go.RowKit Go.Shelf Go.Proofs.YtoibofhmlokglaaW.PrintWords Go.Proofs.YtoibofhmlokglaaW.PrintLast Go.Proofs.YtoibofhmlokglaaW.PrintMore Go.Proofs.Plain

/-- What disk.Write answers. -/
def writeV (l0 : List ByteArray) (l1 : List S40) (at_ : Int) (s : ByteArray) : List ByteArray × List S40 × Int :=
  if checkB l0 l1 = false then ([], [], 1) else if at_ < 0 ∨ at_ ≥ (l0.length : Int) then ([], [], 40) else if longS s = true then ([], [], 1) else if l1.length = 100 then ([], [], 41) else (l0, l1 ++ [⟨at_, s⟩], 0)
def disk_Write.f (l0_0 : List ByteArray) (l0_1 : List S40) (a1 : Int) (a2 : ByteArray) : Option (List ByteArray × List S40 × Int) := some (writeV l0_0 l0_1 a1 a2)

theorem open_f (l0 : List ByteArray) (l1 : List S40) (at_ : Int) : disk_open.f l0 l1 at_ = some (if checkB l0 l1 = false then 1 else if at_ < 0 ∨ at_ ≥ (l0.length : Int) then 40 else 0) := by
  unfold disk_open.f disk_Check.f
  simp only [Option.bind_some]
  cases checkB l0 l1
  · rfl
  · by_cases h1 : at_ < 0
    · simp [h1]
    · by_cases h2 : at_ ≥ (l0.length : Int)
      · simp [h1, h2]
      · simp [h1, h2]

theorem disk_short_new (w : World) (s : ByteArray) :
    Calls Try.prog 42 #[.slice (some ⟨w.heap.size, 0, none⟩) 1 1] (w.alloc (.cells #[.string s] 9)) fun e w' => e = .returned (.bool (!(longS s))) ∧ Below w.heap.size w w' := by
  have h := disk_short_calls _ 1 [s] _ (one_str w s 9)
  refine h.mono ?_
  rintro e w' ⟨rfl, hb⟩
  exact ⟨by simp, ((Below.refl _ _).alloc (Nat.le_refl _) _).trans (hb.mono (by simp))⟩

theorem row_block {w : World} {base : Nat} {e : TypeId} {size n c : Nat} {A : Option Addr} {xs : List Value} (h : w.ownsRow base e size (.slice A n c) n xs) (hn : 0 < n) : ∃ go cells, A = some ⟨go, 0, none⟩ ∧ w.heap[go]? = some (.cells cells e (0, 0)) := by
  rcases h.2 with ⟨he, h0⟩ | ⟨g', cap, cur, he, _, hg, _⟩
  · omega
  · injection he with ha _ _; exact ⟨g', cur, ha, hg⟩

section
variable (A0 : Option Addr) (c0 : Nat) (l0 : List ByteArray) (A1 : Option Addr) (c1 : Nat) (l1 : List S40) (at_ : Int) (s : ByteArray) (w : World)
  (hr0 : Kd.C Kd.string w A0 l0.length l0) (hc0 : l0.length ≤ c0) (hr1 : Kd.C k40 w A1 l1.length l1) (hc1 : l1.length ≤ c1)
include hr0 hc0 hr1 hc1

set_option maxHeartbeats 8000000 in
set_option maxRecDepth 100000 in
theorem disk_Write_yes (hck : checkB l0 l1 = true) (ha : ¬ (at_ < 0 ∨ at_ ≥ (l0.length : Int))) (hs : longS s = false) (hl : ¬ l1.length = 100) :
    Calls Try.prog 13 #[.agg #[.slice A0 l0.length c0, .slice A1 l1.length c1], .int .i64 at_, .string s] w fun e w' => ∃ v0_ v1_ : Value, e = .returned (.tuple #[.agg #[v0_, v1_], .int .i64 0]) ∧ Kd.R Kd.string 9 w' w.heap.size (fun _ => True) v0_ l0 ∧ Kd.R k40 40 w' w.heap.size (fun _ => True) v1_ (l1 ++ [⟨at_, s⟩]) ∧ Below w.heap.size w w' := by
  have hk1 : 1 ≤ l0.length ∧ l0.length ≤ 200 ∧ l1.length ≤ 100 := by
    unfold checkB at hck
    simp only [Bool.and_eq_true, decide_eq_true_eq] at hck
    exact ⟨hck.1.1.1.1, hck.1.1.1.2, hck.1.1.2⟩
  obtain ⟨k1, k2, k3⟩ := hk1
  have hop := open_f l0 l1 at_
  rw [if_neg (by rw [hck]; decide), if_neg ha] at hop
  have HR0 := Aside0.mk hr0
  have HR1 := Aside0.mk hr1
  obtain ⟨D, hD⟩ : ∃ D, D = Obj.cells #[.slice A0 l0.length c0, .slice A1 l1.length c1] 25 := ⟨_, rfl⟩
  have hB2 : Below w.heap.size w ((w.alloc D).alloc (.cells #[.slice none 0 0, .slice none 0 0] 25)) := ((Below.refl _ _).alloc (Nat.le_refl _) _).alloc (by simp) _
  have HB2 := Aside0.mk hB2
  have HC := Aside0.mk (disk_open.calls A0 c0 l0 A1 c1 l1 at_ 0 _ (Kd.C_below hr0 hB2) hc0 (Kd.C_below hr1 hB2) hc1 hop)
  have hE := blk_new (w.alloc D) (.cells #[.slice none 0 0, .slice none 0 0] 25)
  rw [World.size_alloc] at hE
  have HE := Aside0.mk hE
  have HD := Aside0.mk (blk_alloc (blk_new w D) (.cells #[.slice none 0 0, .slice none 0 0] 25))
  have HCL := Aside0.mk (show slices_Clone_WN.f l1 = some l1 by unfold slices_Clone_WN.f; rw [if_pos (by omega)])
  have HS := Aside0.mk hs
  have e100 : ((l1.length : Int) == 100) = false := by simp; omega
  have e100n : (l1.length == 100) = false := by simpa using hl
  subst hD
  clear hB2 hE hr0 hr1 hck hop ha hs hl
  go_enter Try.func13, Try.ntmps13
  go_wp2_with (first | (go_at_call 41; refine HC.out.mono ?_; rintro e w3 ⟨rfl, hb3⟩; have HE3 := Aside0.mk (blk_below HE.out hb3); have HD3 := Aside0.mk (blk_below HD.out hb3); have HB3 := Aside0.mk (HB2.out.trans (hb3.mono HB2.out.size)); clear hb3) | (go_at_call 42; refine (disk_short_new _ _).mono ?_; rintro e w4 ⟨rfl, hb4⟩; have HE4 := Aside0.mk (blk_below HE3.out hb4); have HD4 := Aside0.mk (blk_below HD3.out hb4); have HB4 := Aside0.mk (HB3.out.trans (hb4.mono HB3.out.size)); clear hb4; have d0 := blk_cell HD4.out 0; have d1 := blk_cell HD4.out 1; rw [HS.out]) | ((with_reducible refine gate_dst (N := 33) rfl ?_); refine Kd.R_make Kd.string (w0 := w) w.heap.size 9 rfl rfl 22 (.tmp 32) (.tmp 32) rfl (l0.length : Int) rfl rfl Try.underlying22 (.string ⟨#[]⟩) 16 slices_Clone_string_string_info rfl (by decide) (by omega) ⟨#[]⟩ (ok := fun _ => True) (okp := fun _ => False) rfl (fun _ h => h.elim) trivial (by omega) (by omega) HB4.out HB4.out.size ?_; intro v5 w5 ho5 hb5 hg5 _; have HO5 := Aside0.mk ho5; have HB5 := Aside0.mk hb5; have HE5 := Aside0.mk (blk_grown HE4.out hg5 (by simp)); have HD5 := Aside0.mk (blk_grown HD4.out hg5 (by simp)); obtain ⟨A5, c5, rfl⟩ := Kd.R_slice ho5; simp only [List.length_replicate, Int.toNat_natCast] at *; clear ho5 hb5 hg5 d0 d1; have HT6 := Aside0.mk (blk_new w5 (.cells #[.slice A5 l0.length c5, .slice none 0 0] 25)); have HD6 := Aside0.mk (blk_alloc HD5.out (.cells #[.slice A5 l0.length c5, .slice none 0 0] 25)); have HE6 := Aside0.mk (blk_alloc HE5.out (.cells #[.slice A5 l0.length c5, .slice none 0 0] 25)); have HB6 := Aside0.mk (HB5.out.alloc HB5.out.size (.cells #[.slice A5 l0.length c5, .slice none 0 0] 25)); have HO6 := Aside0.mk (Kd.R_below HO5.out ((Below.refl w5.heap.size w5).alloc (Nat.le_refl _) (.cells #[.slice A5 l0.length c5, .slice none 0 0] 25))); have d0 := blk_cell HD6.out 0; have d1 := blk_cell HD6.out 1) | ((with_reducible refine gate_builtin (b := .copy) (xs := #[.tmp 36, .tmp 38]) rfl ?_); refine copy_strs rfl (.tmp 36) (.tmp 38) rfl (.slice A5 l0.length c5) rfl A0 l0.length c0 rfl (List.replicate l0.length ⟨#[]⟩) l0 HO6.out (Kd.C_below HR0.out HB6.out) (by simp) (by omega) ?_; intro w7 ho7 hg7; have HO7 := Aside0.mk ho7; have HB7 := Aside0.mk (HB6.out.grown hg7 HB6.out.size (fun k e => (Kd.R_bound HO6.out).1 k e |>.2.1)); have HE7 := Aside0.mk (blk_grown HE6.out hg7 (Kd.R_ne HO6.out HE6.out (by decide))); have HD7 := Aside0.mk (blk_grown HD6.out hg7 (Kd.R_ne HO6.out HD6.out (by decide))); have HT7 := Aside0.mk (blk_grown HT6.out hg7 (Kd.R_ne HO6.out HT6.out (by decide))); clear ho7 hg7 d0 d1; have d0 := blk_cell HD7.out 0; have d1 := blk_cell HD7.out 1) | (go_at_call 43; refine (slices_Clone_WN.calls A1 c1 l1 l1 _ (Kd.C_below HR1.out HB7.out) hc1 HCL.out).mono ?_; rintro e w8 ⟨v8, rfl, ho8, hb8⟩; have HO8 := Aside0.mk (Kd.R_below HO7.out hb8); have HE8 := Aside0.mk (blk_below HE7.out hb8); have HT8 := Aside0.mk (blk_below HT7.out hb8); have HP8 := Aside0.mk (Kd.R_lower ho8 HB7.out.size); have HB8 := Aside0.mk (HB7.out.trans (hb8.mono HB7.out.size)); obtain ⟨A8, c8, rfl⟩ := Kd.R_slice ho8; clear ho8 hb8 d0 d1) | ((with_reducible refine gate_builtin (b := .append) (xs := #[.tmp 42, .tmp 46]) rfl ?_); at_builtin; refine Kd.R_append k40 (w0 := w) w.heap.size rfl (.tmp 42) (.tmp 46) 23 40 (.agg #[(.int .i64 0), (.string ⟨#[]⟩)]) 24 rfl Try.underlying23 slices_Clone_WN_info rfl (by decide) (by omega) (.slice A8 l1.length c8) l1 ⟨at_, s⟩ [.int .i64 at_, .string s] (fun _ => True) (fun _ => False) rfl rfl (k40_mkM _ _ _ _) (fun _ hk => hk.elim) (fun _ _ => trivial) HP8.out HB8.out HB8.out.size (by omega) ?_; intro v9 w9 ho9 hb9 hg9 _; have HP9 := Aside0.mk ho9; have HB9 := Aside0.mk hb9; have HE9 := Aside0.mk (blk_grown HE8.out hg9 (Kd.R_ne HP8.out HE8.out (by decide))); have HT9 := Aside0.mk (blk_grown HT8.out hg9 (Kd.R_ne HP8.out HT8.out (by decide))); obtain ⟨A9, c9, rfl⟩ := Kd.R_slice ho9; have HG9 := Aside0.mk hg9; clear ho9 hb9 hg9; have t0 := blk_cell HT9.out 0; have t1 := blk_cell HT9.out 1; have tf := blk_frozen HT9.out 1; have hsl : (l1 ++ [(⟨at_, s⟩ : S40)]).length = l1.length + 1 := (by simp); rw [hsl] at HP9; clear hsl; have hlt5 := blk_lt HE5.out; have HE10 := Aside0.mk (blk_far HE9.out (p := ⟨w5.heap.size, 1, none⟩) (by show w.heap.size + 1 ≠ w5.heap.size; omega) (.slice A9 (l1.length + 1) c9)); have HT10 := Aside0.mk (blk_set HT9.out 1 (.slice A9 (l1.length + 1) c9)); have e0 := blk_cell HE10.out 0; have e1 := blk_cell HE10.out 1; have f0 := blk_frozen HE10.out 0; have f1 := blk_frozen HE10.out 1))
  obtain ⟨go, cells, hA5, hgo⟩ := row_block (Kd.own_of_R HO8.out) (by omega)
  have HO9 : Kd.R Kd.string 9 w9 w.heap.size (fun _ => True) (.slice A5 l0.length c5) l0 := Kd.R_of_own ((Kd.own_of_R HO8.out).kept HG9.out (.inr (by rw [hA5]; exact Kd.R_ne HP8.out hgo (by decide)))) (fun _ _ => trivial)
  have HE11 := blk_set HE10.out 0 (.slice A5 l0.length c5)
  have HE12 := blk_set HE11 1 (.slice A9 (l1.length + 1) c9)
  have qs : ∀ q, q ∈ 9 :: Kd.string.E → q ≠ 25 := by intro q hq; simp [Kd.string, Kd.scalar] at hq; subst hq; decide
  have qw : ∀ q, q ∈ 40 :: k40.E → q ≠ 25 := by intro q hq; simp [k40, Kd.iso, Kd.pair, Kd.int, Kd.string, Kd.scalar] at hq; subst hq; decide
  have g0 := blk_cell HE12 0
  have g1 := blk_cell HE12 1
  have hs5 : w.heap.size ≤ w5.heap.size := HB5.out.size
  refine bodyPost_ret (v := .tuple #[.agg #[.slice A5 l0.length c5, .slice A9 (l1.length + 1) c9], .int .i64 0]) ?_ rfl ⟨_, _, rfl, Kd.R_set (Kd.R_set (Kd.R_set HO9 HT9.out qs 1 _) HE10.out qs 0 _) HE11 qs 1 _, Kd.R_set (Kd.R_set (Kd.R_set HP9.out HT9.out qw 1 _) HE10.out qw 0 _) HE11 qw 1 _, ((HB9.out.setCell (p := ⟨w5.heap.size, 1, none⟩) hs5 _).setCell (p := ⟨w.heap.size + 1, 0, none⟩) (by simp) _).setCell (p := ⟨w.heap.size + 1, 1, none⟩) (by simp) _⟩
  simp [results, Try.results13, go_sem, g0, g1]

set_option maxHeartbeats 4000000 in
set_option maxRecDepth 100000 in
theorem disk_Write_open (er : Int) (hop : disk_open.f l0 l1 at_ = some er) (hne : er ≠ 0) :
    Calls Try.prog 13 #[.agg #[.slice A0 l0.length c0, .slice A1 l1.length c1], .int .i64 at_, .string s] w fun e w' => e = .returned (.tuple #[.agg #[.slice none 0 0, .slice none 0 0], .int .i64 er]) ∧ Below w.heap.size w w' := by
  have HR0 := Aside0.mk hr0
  obtain ⟨D, hD⟩ : ∃ D, D = Obj.cells #[.slice A0 l0.length c0, .slice A1 l1.length c1] 25 := ⟨_, rfl⟩
  have hB2 : Below w.heap.size w ((w.alloc D).alloc (.cells #[.slice none 0 0, .slice none 0 0] 25)) := ((Below.refl _ _).alloc (Nat.le_refl _) _).alloc (by simp) _
  have HB2 := Aside0.mk hB2
  have HC := Aside0.mk (disk_open.calls A0 c0 l0 A1 c1 l1 at_ er _ (Kd.C_below hr0 hB2) hc0 (Kd.C_below hr1 hB2) hc1 hop)
  have hE := blk_new (w.alloc D) (.cells #[.slice none 0 0, .slice none 0 0] 25)
  rw [World.size_alloc] at hE
  have HE := Aside0.mk hE
  have HD := Aside0.mk (blk_alloc (blk_new w D) (.cells #[.slice none 0 0, .slice none 0 0] 25))
  subst hD
  clear hB2 hE hr0 hr1 hop
  have e2 : (er != 0) = true := by simpa using hne
  clear hne
  go_enter Try.func13, Try.ntmps13
  go_wp2_with (go_at_call 41; refine HC.out.mono ?_; rintro e w3 ⟨rfl, hb3⟩; have HE3 := Aside0.mk (blk_below HE.out hb3); have HD3 := Aside0.mk (blk_below HD.out hb3); have HB3 := Aside0.mk (HB2.out.trans (hb3.mono HB2.out.size)); clear hb3; have e0 := blk_cell HE3.out 0; have e1 := blk_cell HE3.out 1; have f0 := blk_frozen HE3.out 0; have f1 := blk_frozen HE3.out 1)
  have g0 := blk_cell (blk_set (blk_set HE3.out 0 (.slice none 0 0)) 1 (.slice none 0 0)) 0
  have g1 := blk_cell (blk_set (blk_set HE3.out 0 (.slice none 0 0)) 1 (.slice none 0 0)) 1
  refine bodyPost_ret (v := .tuple #[.agg #[.slice none 0 0, .slice none 0 0], .int .i64 er]) ?_ rfl ⟨rfl, (HB3.out.setCell (p := ⟨w.heap.size + 1, 0, none⟩) (by simp) _).setCell (p := ⟨w.heap.size + 1, 1, none⟩) (by simp) _⟩
  simp [results, Try.results13, go_sem, g0, g1]

set_option maxHeartbeats 4000000 in
set_option maxRecDepth 100000 in
theorem disk_Write_long (hop : disk_open.f l0 l1 at_ = some 0) (hs : longS s = true) :
    Calls Try.prog 13 #[.agg #[.slice A0 l0.length c0, .slice A1 l1.length c1], .int .i64 at_, .string s] w fun e w' => e = .returned (.tuple #[.agg #[.slice none 0 0, .slice none 0 0], .int .i64 1]) ∧ Below w.heap.size w w' := by
  have HR0 := Aside0.mk hr0
  obtain ⟨D, hD⟩ : ∃ D, D = Obj.cells #[.slice A0 l0.length c0, .slice A1 l1.length c1] 25 := ⟨_, rfl⟩
  have hB2 : Below w.heap.size w ((w.alloc D).alloc (.cells #[.slice none 0 0, .slice none 0 0] 25)) := ((Below.refl _ _).alloc (Nat.le_refl _) _).alloc (by simp) _
  have HB2 := Aside0.mk hB2
  have HC := Aside0.mk (disk_open.calls A0 c0 l0 A1 c1 l1 at_ 0 _ (Kd.C_below hr0 hB2) hc0 (Kd.C_below hr1 hB2) hc1 hop)
  have hE := blk_new (w.alloc D) (.cells #[.slice none 0 0, .slice none 0 0] 25)
  rw [World.size_alloc] at hE
  have HE := Aside0.mk hE
  have HD := Aside0.mk (blk_alloc (blk_new w D) (.cells #[.slice none 0 0, .slice none 0 0] 25))
  subst hD
  clear hB2 hE hr0 hr1 hop
  have HS := Aside0.mk hs
  clear hs
  go_enter Try.func13, Try.ntmps13
  go_wp2_with (first | (go_at_call 41; refine HC.out.mono ?_; rintro e w3 ⟨rfl, hb3⟩; have HE3 := Aside0.mk (blk_below HE.out hb3); have HD3 := Aside0.mk (blk_below HD.out hb3); have HB3 := Aside0.mk (HB2.out.trans (hb3.mono HB2.out.size)); clear hb3) | (go_at_call 42; refine (disk_short_new _ _).mono ?_; rintro e w4 ⟨rfl, hb4⟩; have HE4 := Aside0.mk (blk_below HE3.out hb4); have HD4 := Aside0.mk (blk_below HD3.out hb4); have HB4 := Aside0.mk (HB3.out.trans (hb4.mono HB3.out.size)); clear hb4; have d0 := blk_cell HD4.out 0; have d1 := blk_cell HD4.out 1; rw [HS.out]; have e0 := blk_cell HE4.out 0; have e1 := blk_cell HE4.out 1; have f0 := blk_frozen HE4.out 0; have f1 := blk_frozen HE4.out 1))
  have g0 := blk_cell (blk_set (blk_set HE4.out 0 (.slice none 0 0)) 1 (.slice none 0 0)) 0
  have g1 := blk_cell (blk_set (blk_set HE4.out 0 (.slice none 0 0)) 1 (.slice none 0 0)) 1
  refine bodyPost_ret (v := .tuple #[.agg #[.slice none 0 0, .slice none 0 0], .int .i64 1]) ?_ rfl ⟨rfl, (HB4.out.setCell (p := ⟨w.heap.size + 1, 0, none⟩) (by simp) _).setCell (p := ⟨w.heap.size + 1, 1, none⟩) (by simp) _⟩
  simp [results, Try.results13, go_sem, g0, g1]

set_option maxHeartbeats 4000000 in
set_option maxRecDepth 100000 in
theorem disk_Write_full (hop : disk_open.f l0 l1 at_ = some 0) (hs : longS s = false) (hl : l1.length = 100) :
    Calls Try.prog 13 #[.agg #[.slice A0 l0.length c0, .slice A1 l1.length c1], .int .i64 at_, .string s] w fun e w' => e = .returned (.tuple #[.agg #[.slice none 0 0, .slice none 0 0], .int .i64 41]) ∧ Below w.heap.size w w' := by
  have HR0 := Aside0.mk hr0
  obtain ⟨D, hD⟩ : ∃ D, D = Obj.cells #[.slice A0 l0.length c0, .slice A1 l1.length c1] 25 := ⟨_, rfl⟩
  have hB2 : Below w.heap.size w ((w.alloc D).alloc (.cells #[.slice none 0 0, .slice none 0 0] 25)) := ((Below.refl _ _).alloc (Nat.le_refl _) _).alloc (by simp) _
  have HB2 := Aside0.mk hB2
  have HC := Aside0.mk (disk_open.calls A0 c0 l0 A1 c1 l1 at_ 0 _ (Kd.C_below hr0 hB2) hc0 (Kd.C_below hr1 hB2) hc1 hop)
  have hE := blk_new (w.alloc D) (.cells #[.slice none 0 0, .slice none 0 0] 25)
  rw [World.size_alloc] at hE
  have HE := Aside0.mk hE
  have HD := Aside0.mk (blk_alloc (blk_new w D) (.cells #[.slice none 0 0, .slice none 0 0] 25))
  subst hD
  clear hB2 hE hr0 hr1 hop
  have HS := Aside0.mk hs
  have e100 : ((l1.length : Int) == 100) = true := by simp; omega
  have e100n : (l1.length == 100) = true := by simpa using hl
  clear hs hl
  go_enter Try.func13, Try.ntmps13
  go_wp2_with (first | (go_at_call 41; refine HC.out.mono ?_; rintro e w3 ⟨rfl, hb3⟩; have HE3 := Aside0.mk (blk_below HE.out hb3); have HD3 := Aside0.mk (blk_below HD.out hb3); have HB3 := Aside0.mk (HB2.out.trans (hb3.mono HB2.out.size)); clear hb3) | (go_at_call 42; refine (disk_short_new _ _).mono ?_; rintro e w4 ⟨rfl, hb4⟩; have HE4 := Aside0.mk (blk_below HE3.out hb4); have HD4 := Aside0.mk (blk_below HD3.out hb4); have HB4 := Aside0.mk (HB3.out.trans (hb4.mono HB3.out.size)); clear hb4; have d0 := blk_cell HD4.out 0; have d1 := blk_cell HD4.out 1; rw [HS.out]; have e0 := blk_cell HE4.out 0; have e1 := blk_cell HE4.out 1; have f0 := blk_frozen HE4.out 0; have f1 := blk_frozen HE4.out 1))
  have g0 := blk_cell (blk_set (blk_set HE4.out 0 (.slice none 0 0)) 1 (.slice none 0 0)) 0
  have g1 := blk_cell (blk_set (blk_set HE4.out 0 (.slice none 0 0)) 1 (.slice none 0 0)) 1
  refine bodyPost_ret (v := .tuple #[.agg #[.slice none 0 0, .slice none 0 0], .int .i64 41]) ?_ rfl ⟨rfl, (HB4.out.setCell (p := ⟨w.heap.size + 1, 0, none⟩) (by simp) _).setCell (p := ⟨w.heap.size + 1, 1, none⟩) (by simp) _⟩
  simp [results, Try.results13, go_sem, g0, g1]
end

theorem disk_Write.calls (A0_0 : Option Addr) (c0_0 : Nat) (l0_0 : List ByteArray) (A0_1 : Option Addr) (c0_1 : Nat) (l0_1 : List S40) (a1 : Int) (a2 : ByteArray) (r1 : List ByteArray) (r2 : List S40) (r3 : Int) (w : World) (hr0_0 : Kd.C Kd.string w A0_0 l0_0.length l0_0) (hc0_0 : l0_0.length ≤ c0_0) (hr0_1 : Kd.C k40 w A0_1 l0_1.length l0_1) (hc0_1 : l0_1.length ≤ c0_1) (h : disk_Write.f l0_0 l0_1 a1 a2 = some (r1, r2, r3)) :
    Calls Try.prog 13 #[.agg #[.slice A0_0 l0_0.length c0_0, .slice A0_1 l0_1.length c0_1], .int .i64 a1, .string a2] w fun e w' => ∃ v0_ v1_ : Value, e = .returned (.tuple #[.agg #[v0_, v1_], .int .i64 r3]) ∧ Kd.R Kd.string 9 w' w.heap.size (fun _ => True) v0_ r1 ∧ Kd.R k40 40 w' w.heap.size (fun _ => True) v1_ r2 ∧ Below w.heap.size w w' := by
  have hv : writeV l0_0 l0_1 a1 a2 = (r1, r2, r3) := by simpa [disk_Write.f] using h
  have hop := open_f l0_0 l0_1 a1
  unfold writeV at hv
  by_cases h1 : checkB l0_0 l0_1 = false
  · rw [if_pos h1] at hv hop
    simp only [Prod.mk.injEq] at hv
    obtain ⟨rfl, rfl, rfl⟩ := hv
    refine (disk_Write_open A0_0 c0_0 l0_0 A0_1 c0_1 l0_1 a1 a2 w hr0_0 hc0_0 hr0_1 hc0_1 1 hop (by decide)).mono ?_
    rintro e w' ⟨rfl, hb⟩
    exact ⟨_, _, rfl, Kd.R_nil _ _ _ _ _, Kd.R_nil _ _ _ _ _, hb⟩
  · rw [if_neg h1] at hv hop
    by_cases h2 : a1 < 0 ∨ a1 ≥ (l0_0.length : Int)
    · rw [if_pos h2] at hv hop
      simp only [Prod.mk.injEq] at hv
      obtain ⟨rfl, rfl, rfl⟩ := hv
      refine (disk_Write_open A0_0 c0_0 l0_0 A0_1 c0_1 l0_1 a1 a2 w hr0_0 hc0_0 hr0_1 hc0_1 40 hop (by decide)).mono ?_
      rintro e w' ⟨rfl, hb⟩
      exact ⟨_, _, rfl, Kd.R_nil _ _ _ _ _, Kd.R_nil _ _ _ _ _, hb⟩
    · rw [if_neg h2] at hv hop
      by_cases h3 : longS a2 = true
      · rw [if_pos h3] at hv
        simp only [Prod.mk.injEq] at hv
        obtain ⟨rfl, rfl, rfl⟩ := hv
        refine (disk_Write_long A0_0 c0_0 l0_0 A0_1 c0_1 l0_1 a1 a2 w hr0_0 hc0_0 hr0_1 hc0_1 hop h3).mono ?_
        rintro e w' ⟨rfl, hb⟩
        exact ⟨_, _, rfl, Kd.R_nil _ _ _ _ _, Kd.R_nil _ _ _ _ _, hb⟩
      · rw [if_neg h3] at hv
        have h3' : longS a2 = false := by simpa using h3
        by_cases h4 : l0_1.length = 100
        · rw [if_pos h4] at hv
          simp only [Prod.mk.injEq] at hv
          obtain ⟨rfl, rfl, rfl⟩ := hv
          refine (disk_Write_full A0_0 c0_0 l0_0 A0_1 c0_1 l0_1 a1 a2 w hr0_0 hc0_0 hr0_1 hc0_1 hop h3' h4).mono ?_
          rintro e w' ⟨rfl, hb⟩
          exact ⟨_, _, rfl, Kd.R_nil _ _ _ _ _, Kd.R_nil _ _ _ _ _, hb⟩
        · rw [if_neg h4] at hv
          simp only [Prod.mk.injEq] at hv
          obtain ⟨rfl, rfl, rfl⟩ := hv
          exact disk_Write_yes A0_0 c0_0 l0_0 A0_1 c0_1 l0_1 a1 a2 w hr0_0 hc0_0 hr0_1 hc0_1 (by simpa using h1) h2 h3' h4
end Go.Proofs.Ytoibofhmlokglaa.P
/-
  disk.Crash, by hand. For every disk and choice.
-/
namespace Go.Proofs.Ytoibofhmlokglaa.P
open Go.RowKit Go.Shelf Go.Proofs.YtoibofhmlokglaaW.PrintWords Go.Proofs.YtoibofhmlokglaaW.PrintLast Go.Proofs.YtoibofhmlokglaaW.PrintMore Go.Proofs.Plain

/-- Whether a choice keeps number i. -/
def keepB (l : List Bool) (i : Int) : Bool := decide (i < (l.length : Int)) && rdOf false l i

set_option maxHeartbeats 2000000 in
theorem disk_Crash1_calls (i : Nat) (B : Nat) (A : Option Addr) (c : Nat) (l : List Bool) (w : World) (hb : w.cell? ⟨B, 0, none⟩ = some (.slice A l.length c)) (hr : Kd.C Kd.bool w A l.length l) :
    Calls Try.prog 47 #[.int .i64 (i : Int), .pointer (some ⟨B, 0, none⟩)] w fun e w' => e = .returned (.bool (keepB l i)) ∧ w' = w := by
  by_cases h : i < l.length
  · obtain ⟨ad, rfl, hx⟩ := Kd.at_bool hr (i : Int) (by omega) (by omega)
    rw [Int.toNat_natCast] at hx
    have hk := Aside0.mk (show keepB l i = rdOf false l (i : Int) by unfold keepB; rw [decide_eq_true (by omega)]; rfl)
    obtain ⟨b, hbb⟩ : ∃ b, b = rdOf false l (i : Int) := ⟨_, rfl⟩
    rw [← hbb] at hx hk
    have hd : decide ((i : Int) < (l.length : Int)) = true := decide_eq_true (by omega)
    have hd2 : decide (i < l.length) = true := decide_eq_true h
    have hm := hr.2.1
    clear hbb hr
    go_enter Try.func47, Try.ntmps47
    go_wp2
    go_ret
    exact ⟨by rw [hk.out]; cases b <;> rfl, rfl⟩
  · have hk := Aside0.mk (show keepB l i = false by unfold keepB; rw [decide_eq_false (by omega)]; rfl)
    have hd : decide ((i : Int) < (l.length : Int)) = false := decide_eq_false (by omega)
    have hd2 : decide (i < l.length) = false := decide_eq_false h
    clear hr h
    go_enter Try.func47, Try.ntmps47
    go_wp2
    go_ret
    exact ⟨by rw [hk.out]; rfl, rfl⟩
theorem crash_pred (B : Nat) (A : Option Addr) (c : Nat) (l : List Bool) (w : World) (hb : w.cell? ⟨B, 0, none⟩ = some (.slice A l.length c)) (hB : B < w.heap.size) (hr : Kd.C Kd.bool w A l.length l) : PredI 47 #[.pointer (some ⟨B, 0, none⟩)] (keepB l) w :=
  ⟨enters_of Try.func47 (by kernel_rfl) rfl, fun i w1 h1 => (disk_Crash1_calls i B A c l w1 ((h1.cell (p := ⟨B, 0, none⟩) hB).trans hb) (Kd.C_below hr h1)).mono (by rintro e w2 ⟨rfl, rfl⟩; exact ⟨rfl, Below.refl _ _⟩)⟩

/-- What disk.Crash answers. -/
def disk_Crash.f (l0_0 : List ByteArray) (l0_1 : List S40) (l1 : List Bool) : Option (List ByteArray × List S40 × Int) := some (doneV (keepB l1) l0_0 l0_1)

set_option maxHeartbeats 4000000 in
set_option maxRecDepth 100000 in
theorem disk_Crash.calls (A0_0 : Option Addr) (c0_0 : Nat) (l0_0 : List ByteArray) (A0_1 : Option Addr) (c0_1 : Nat) (l0_1 : List S40) (A1 : Option Addr) (c1 : Nat) (l1 : List Bool) (r1 : List ByteArray) (r2 : List S40) (r3 : Int) (w : World) (hr0_0 : Kd.C Kd.string w A0_0 l0_0.length l0_0) (hc0_0 : l0_0.length ≤ c0_0) (hr0_1 : Kd.C k40 w A0_1 l0_1.length l0_1) (hc0_1 : l0_1.length ≤ c0_1) (hr1 : Kd.C Kd.bool w A1 l1.length l1) (hc1 : l1.length ≤ c1) (h : disk_Crash.f l0_0 l0_1 l1 = some (r1, r2, r3)) :
    Calls Try.prog 19 #[.agg #[.slice A0_0 l0_0.length c0_0, .slice A0_1 l0_1.length c0_1], .slice A1 l1.length c1] w fun e w' => ∃ v0_ v1_ : Value, e = .returned (.tuple #[.agg #[v0_, v1_], .int .i64 r3]) ∧ Kd.R Kd.string 9 w' w.heap.size (fun _ => True) v0_ r1 ∧ Kd.R k40 40 w' w.heap.size (fun _ => True) v1_ r2 ∧ Below w.heap.size w w' := by
  have hv : doneV (keepB l1) l0_0 l0_1 = (r1, r2, r3) := by simpa [disk_Crash.f] using h
  have hw := doneV_wait (keepB l1) l0_0 l0_1
  rw [hv] at hw
  simp only at hw
  subst hw
  obtain ⟨D, hD⟩ : ∃ D, D = Obj.cells #[.slice A0_0 l0_0.length c0_0, .slice A0_1 l0_1.length c0_1] 25 := ⟨_, rfl⟩
  have hB2 : Below w.heap.size w (((w.alloc D).alloc (.cells #[.slice A1 l1.length c1] 26)).alloc (.cells #[.slice none 0 0, .slice none 0 0] 25)) := (((Below.refl _ _).alloc (Nat.le_refl _) _).alloc (by simp) _).alloc (by simp; omega) _
  have HB2 := Aside0.mk hB2
  have hbx0 := blk_alloc (blk_new (w.alloc D) (.cells #[.slice A1 l1.length c1] 26)) (.cells #[.slice none 0 0, .slice none 0 0] 25)
  rw [World.size_alloc] at hbx0
  have hC := disk_done_any 47 #[.pointer (some ⟨w.heap.size + 1, 0, none⟩)] (keepB l1) A0_0 c0_0 l0_0 A0_1 c0_1 l0_1 _ (Kd.C_below hr0_0 hB2) hc0_0 (Kd.C_below hr0_1 hB2) hc0_1 (crash_pred (w.heap.size + 1) A1 c1 l1 _ (blk_cell hbx0 0) (by simp) (Kd.C_below hr1 hB2))
  rw [hv] at hC
  have HC := Aside0.mk hC
  have hE := blk_new ((w.alloc D).alloc (.cells #[.slice A1 l1.length c1] 26)) (.cells #[.slice none 0 0, .slice none 0 0] 25)
  rw [World.size_alloc, World.size_alloc] at hE
  have HE := Aside0.mk hE
  subst hD
  clear hB2 hE hr0_0 hr0_1 hC hv h hr1 hbx0
  go_enter Try.func19, Try.ntmps19
  go_wp2_with (go_at_call 45; refine HC.out.mono ?_; rintro e w3 ⟨v0, rfl, hR3, hb3⟩; have HR3 := Aside0.mk (Kd.R_lower hR3 HB2.out.size); have HE3 := Aside0.mk (blk_below HE.out hb3); have HB3 := Aside0.mk (HB2.out.trans (hb3.mono HB2.out.size)); have e0 := blk_cell HE3.out 0; have e1 := blk_cell HE3.out 1; have f0 := blk_frozen HE3.out 0; have f1 := blk_frozen HE3.out 1; obtain ⟨A, c, rfl⟩ := Kd.R_slice hR3; clear hb3 hR3)
  have g0 := blk_cell (blk_set (blk_set HE3.out 0 (.slice A r1.length c)) 1 (.slice none 0 0)) 0
  have g1 := blk_cell (blk_set (blk_set HE3.out 0 (.slice A r1.length c)) 1 (.slice none 0 0)) 1
  refine bodyPost_ret (v := .tuple #[.agg #[.slice A r1.length c, .slice none 0 0], .int .i64 r3]) ?_ rfl ⟨_, _, rfl, Kd.R_set (Kd.R_set HR3.out HE3.out (by intro q hq; simp [Kd.string, Kd.scalar] at hq; subst hq; decide) 0 _) (blk_set HE3.out 0 _) (by intro q hq; simp [Kd.string, Kd.scalar] at hq; subst hq; decide) 1 _, Kd.R_nil _ _ _ _ _, (HB3.out.setCell (p := ⟨w.heap.size + 1 + 1, 0, none⟩) (by simp; omega) _).setCell (p := ⟨w.heap.size + 1 + 1, 1, none⟩) (by simp; omega) _⟩
  simp [results, Try.results19, go_sem, g0, g1]
end Go.Proofs.Ytoibofhmlokglaa.P
-- Written by a program of this session (xprint.py) over the kit's print.py.
namespace Go.Proofs.Ytoibofhmlokglaa.P
open Go.RowKit Go.Proofs.YtoibofhmlokglaaW.PrintWords Go.Proofs.YtoibofhmlokglaaW.PrintLast Go.Proofs.YtoibofhmlokglaaW.PrintMore
attribute [local go_sem] max2_int min2_int max_two min_two max_three min_three max_four min_four   -- for this text's walks alone
set_option linter.unusedVariables false
set_option linter.unusedSimpArgs false

/-! ### disk_Read: function 15 -/
def disk_Read.f (l0_0 : List ByteArray) (l0_1 : List (S40)) (a1 : Int) : Option (ByteArray × Int) := (disk_open.f l0_0 l0_1 a1).bind fun t138 => (if t138 = 0 then ((disk_Sync.f l0_0 l0_1).bind fun bt139 => (if bt139.2.2 = 0 then (if 0 ≤ a1 then (if a1 < (bt139.1.length : Int) then (some (rdOf ByteArray.empty bt139.1 a1, 0)) else (none)) else (none)) else (some ((⟨#[]⟩ : ByteArray), bt139.2.2)))) else (some ((⟨#[]⟩ : ByteArray), t138)))
set_option maxHeartbeats 8000000 in
set_option maxRecDepth 100000 in
theorem disk_Read.calls (A0_0 : Option Addr) (c0_0 : Nat) (l0_0 : List ByteArray) (A0_1 : Option Addr) (c0_1 : Nat) (l0_1 : List (S40)) (a1 : Int) (r1 : ByteArray) (r2 : Int) (w : World) (hr0_0 : Kd.C Kd.string w A0_0 l0_0.length l0_0) (hc0_0 : l0_0.length ≤ c0_0) (hr0_1 : Kd.C k40 w A0_1 l0_1.length l0_1) (hc0_1 : l0_1.length ≤ c0_1) (h : disk_Read.f l0_0 l0_1 a1 = some (r1, r2)) :
    Calls Try.prog 15 #[.agg #[.slice A0_0 l0_0.length c0_0, .slice A0_1 l0_1.length c0_1], .int .i64 a1] w fun e w' => e = .returned (.tuple #[.string r1, .int .i64 r2]) ∧ Below w.heap.size w w' := by
  have hu25 := Try.underlying25
  have HR0_0 := Aside0.mk hr0_0
  have HC0_0 := Aside0.mk hc0_0
  clear hr0_0 hc0_0
  have HR0_1 := Aside0.mk hr0_1
  have HC0_1 := Aside0.mk hc0_1
  clear hr0_1 hc0_1
  have HB := Aside0.mk (Below.refl w.heap.size w)
  have H : ((disk_open.f l0_0 l0_1 a1).bind fun t138 => (if t138 = 0 then ((disk_Sync.f l0_0 l0_1).bind fun bt139 => (if bt139.2.2 = 0 then (if 0 ≤ a1 then (if a1 < (bt139.1.length : Int) then (some (rdOf ByteArray.empty bt139.1 a1, 0)) else (none)) else (none)) else (some ((⟨#[]⟩ : ByteArray), bt139.2.2)))) else (some ((⟨#[]⟩ : ByteArray), t138)))) = some (r1, r2) := h
  clear h
  replace H := Option.bind_eq_some_iff.mp H
  obtain ⟨t138, A30, H⟩ := H
  replace H : (if t138 = 0 then ((disk_Sync.f l0_0 l0_1).bind fun bt139 => (if bt139.2.2 = 0 then (if 0 ≤ a1 then (if a1 < (bt139.1.length : Int) then (some (rdOf ByteArray.empty bt139.1 a1, 0)) else (none)) else (none)) else (some ((⟨#[]⟩ : ByteArray), bt139.2.2)))) else (some ((⟨#[]⟩ : ByteArray), t138))) = some (r1, r2) := H
  have A3 := Aside0.mk A30
  clear A30
  by_cases c4 : t138 = 0
  · rw [if_pos c4] at H
    have c4b0 : (t138 == 0) = true := beq_iff_eq.mpr c4
    have c4b1 : (t138 != 0) = false := bne_eq_false_iff_eq.mpr c4
    clear c4
    replace H := Option.bind_eq_some_iff.mp H
    obtain ⟨⟨t139, t142, t145⟩, A50, H⟩ := H
    replace H : (if t145 = 0 then (if 0 ≤ a1 then (if a1 < (t139.length : Int) then (some (rdOf ByteArray.empty t139 a1, 0)) else (none)) else (none)) else (some ((⟨#[]⟩ : ByteArray), t145))) = some (r1, r2) := H
    have A5 := Aside0.mk A50
    clear A50
    by_cases c6 : t145 = 0
    · rw [if_pos c6] at H
      have c6b0 : (t145 == 0) = true := beq_iff_eq.mpr c6
      have c6b1 : (t145 != 0) = false := bne_eq_false_iff_eq.mpr c6
      clear c6
      by_cases c7 : 0 ≤ a1
      · rw [if_pos c7] at H
        have c7b0 : decide (0 ≤ a1) = true := decide_eq_true c7
        clear c7
        by_cases c8 : a1 < (t139.length : Int)
        · rw [if_pos c8] at H
          have c8b0 : decide (a1 < (t139.length : Int)) = true := decide_eq_true c8
          clear c8
          simp only [Option.some.injEq, Prod.mk.injEq] at H
          obtain ⟨rfl, rfl⟩ := H
          go_enter Try.func15, Try.ntmps15
          go_wp2_with (first | ((with_reducible refine gate_dst (N := 2) rfl ?_); refine box_event ?hg (N := 2) ?hd (cs := #[.slice A0_0 l0_0.length c0_0, .slice A0_1 l0_1.length c0_1]) (t := 25) ?hr ?_; (case hd => rfl); (case hg => rfl); (case hr => first | (go_simp; done) | (go_simp; rfl)); intro gb137 hg w9 hbox hb; have n0_ := Aside0.mk (below_step (by repeat (first | (with_reducible first | exact HB.out | apply below_alloc | apply pw_below_drewN | apply below_drew1) | exact HB.out)) hb); have n1_ := Aside0.mk (hbox); have n2_ := Aside0.mk ((by rw [hg]; exact (below_size (by repeat (first | (with_reducible first | exact HB.out | apply below_alloc | apply pw_below_drewN | apply below_drew1) | exact HB.out))) : w.heap.size ≤ gb137)); have n3_ := Aside0.mk ((by rw [hg]; exact (below_size (by repeat (first | (with_reducible first | exact HB.out | apply below_alloc | apply pw_below_drewN | apply below_drew1) | exact HB.out))) : w.heap.size ≤ gb137)); clear HB; have HB := n0_; have BK137 := n1_; have GW137 := n2_; have GE137 := n3_; clear n0_ n1_ n2_ n3_; clear hb hbox hg; have hcz10_0 : w9.cell? ⟨gb137, 0, none⟩ = some (.slice A0_0 l0_0.length c0_0) := (blk_cell BK137.out 0).trans rfl; have hcz10_1 : w9.cell? ⟨gb137, 1, none⟩ = some (.slice A0_1 l0_1.length c0_1) := (blk_cell BK137.out 1).trans rfl; have hfz10_0 := blk_frozen BK137.out 0; have hfz10_1 := blk_frozen BK137.out 1) | ((with_reducible refine gate_callee (f := 41) rfl ?_); refine goesL_ (some 11) rfl rfl Try.func41 (by kernel_rfl) rfl #[.agg #[.slice A0_0 l0_0.length c0_0, .slice A0_1 l0_1.length c0_1], .int .i64 a1] rfl (by (try simp only [List.map_toArray, List.map_cons, List.map_nil]); first | done | rfl | (simp only [List.length_drop, List.length_take]; rfl)) ?_; (with_reducible refine (disk_open.calls _ _ l0_0 _ _ l0_1 a1 t138 _ ?side1 ?side2 ?side3 ?side4 A3.out).mono ?_); (case side1 => repeat (first | exact (Kd.C_below HR0_0.out HB.out) | (with_reducible refine Kd.C_alloc ?_ _) | (with_reducible refine Kd.C_drewN ?_ _) | (with_reducible refine Kd.C_drew ?_))); (case side2 => exact HC0_0.out); (case side3 => repeat (first | exact (Kd.C_below HR0_1.out HB.out) | (with_reducible refine Kd.C_alloc ?_ _) | (with_reducible refine Kd.C_drewN ?_ _) | (with_reducible refine Kd.C_drew ?_))); (case side4 => exact HC0_1.out); rintro e w11 ⟨rfl, hb⟩; refine ⟨_, rfl, ?_⟩; have n0_ := Aside0.mk (blk_below (g := gb137) (o := .cells #[.slice A0_0 l0_0.length c0_0, .slice A0_1 l0_1.length c0_1] 25 (0, 0)) (by (with_reducible repeat (first | refine blk_drewN ?_ _ | refine blk_drew ?_ | refine blk_alloc ?_ _)); exact BK137.out) hb); have n1_ := Aside0.mk (below_step (by repeat (first | (with_reducible first | exact HB.out | apply below_alloc | apply pw_below_drewN | apply below_drew1 | refine below_set ?_ GE137.out) | exact HB.out)) hb); clear BK137; clear HB; have BK137 := n0_; have HB := n1_; clear n0_ n1_; (try clear hb); (try clear hb2); (try clear hk); (try clear hi); have hcz12_0 : w11.cell? ⟨gb137, 0, none⟩ = some (.slice A0_0 l0_0.length c0_0) := (blk_cell BK137.out 0).trans rfl; have hcz12_1 : w11.cell? ⟨gb137, 1, none⟩ = some (.slice A0_1 l0_1.length c0_1) := (blk_cell BK137.out 1).trans rfl; have hfz12_0 := blk_frozen BK137.out 0; have hfz12_1 := blk_frozen BK137.out 1) | ((with_reducible refine gate_callee (f := 17) rfl ?_); refine goesL_ (some 17) rfl rfl Try.func17 (by kernel_rfl) rfl #[.agg #[.slice A0_0 l0_0.length c0_0, .slice A0_1 l0_1.length c0_1]] rfl (by (try simp only [List.map_toArray, List.map_cons, List.map_nil]); first | done | rfl | (simp only [List.length_drop, List.length_take]; rfl)) ?_; (with_reducible refine (disk_Sync.calls _ _ l0_0 _ _ l0_1 t139 t142 t145 _ ?side1 ?side2 ?side3 ?side4 A5.out).mono ?_); (case side1 => repeat (first | exact (Kd.C_below HR0_0.out HB.out) | (with_reducible refine Kd.C_alloc ?_ _) | (with_reducible refine Kd.C_drewN ?_ _) | (with_reducible refine Kd.C_drew ?_))); (case side2 => exact HC0_0.out); (case side3 => repeat (first | exact (Kd.C_below HR0_1.out HB.out) | (with_reducible refine Kd.C_alloc ?_ _) | (with_reducible refine Kd.C_drewN ?_ _) | (with_reducible refine Kd.C_drew ?_))); (case side4 => exact HC0_1.out); rintro e w13 ⟨v140, v143, rfl, ho0, ho1, hb⟩; refine ⟨_, rfl, ?_⟩; have n0_ := Aside0.mk (Kd.R_lower ho0 (below_size (by repeat (first | (with_reducible first | exact HB.out | apply below_alloc | apply pw_below_drewN | apply below_drew1 | refine below_set ?_ GE137.out) | exact HB.out)))); have n1_ := Aside0.mk (Kd.R_lower ho1 (below_size (by repeat (first | (with_reducible first | exact HB.out | apply below_alloc | apply pw_below_drewN | apply below_drew1 | refine below_set ?_ GE137.out) | exact HB.out)))); have n2_ := Aside0.mk (blk_below (g := gb137) (o := .cells #[.slice A0_0 l0_0.length c0_0, .slice A0_1 l0_1.length c0_1] 25 (0, 0)) (by (with_reducible repeat (first | refine blk_drewN ?_ _ | refine blk_drew ?_ | refine blk_alloc ?_ _)); exact BK137.out) hb); have n3_ := Aside0.mk (below_step (by repeat (first | (with_reducible first | exact HB.out | apply below_alloc | apply pw_below_drewN | apply below_drew1 | refine below_set ?_ GE137.out) | exact HB.out)) hb); clear BK137; clear HB; have HO141 := n0_; have HO144 := n1_; have BK137 := n2_; have HB := n3_; clear n0_ n1_ n2_ n3_; (try clear hb); (try clear hb2); (try clear hk); (try clear hi); (try clear ho0); (try clear ho1)) | ((with_reducible refine gate_dst (N := 7) rfl ?_); refine box_event ?hg (N := 7) ?hd (cs := #[.slice none 0 0, .slice none 0 0]) (t := 25) ?hr ?_; (case hd => rfl); (case hg => rfl); (case hr => first | (go_simp; done) | (go_simp; rfl)); intro gb146 hg w14 hbox hb; have n0_ := Aside0.mk (Kd.R_below (by (with_reducible repeat (first | apply Kd.R_alloc | apply Kd.R_drewN | apply Kd.R_drew)); exact HO141.out) hb); have n1_ := Aside0.mk (Kd.R_below (by (with_reducible repeat (first | apply Kd.R_alloc | apply Kd.R_drewN | apply Kd.R_drew)); exact HO144.out) hb); have n2_ := Aside0.mk (blk_below (g := gb137) (o := .cells #[.slice A0_0 l0_0.length c0_0, .slice A0_1 l0_1.length c0_1] 25 (0, 0)) (by (with_reducible repeat (first | refine blk_drewN ?_ _ | refine blk_drew ?_ | refine blk_alloc ?_ _)); exact BK137.out) hb); have n3_ := Aside0.mk (below_step (by repeat (first | (with_reducible first | exact HB.out | apply below_alloc | apply pw_below_drewN | apply below_drew1 | refine below_set ?_ GE137.out) | exact HB.out)) hb); have n4_ := Aside0.mk (hbox); have n5_ := Aside0.mk ((by rw [hg]; exact (below_size (by repeat (first | (with_reducible first | exact HB.out | apply below_alloc | apply pw_below_drewN | apply below_drew1 | refine below_set ?_ GE137.out) | exact HB.out))) : w.heap.size ≤ gb146)); have n6_ := Aside0.mk ((by rw [hg]; exact (below_size (by repeat (first | (with_reducible first | exact HB.out | apply below_alloc | apply pw_below_drewN | apply below_drew1 | refine below_set ?_ GE137.out) | exact HB.out))) : w.heap.size ≤ gb146)); have n7_ := Aside0.mk ((by rw [hg]; exact Nat.ne_of_lt (blk_lt (g := gb137) (o := .cells #[.slice A0_0 l0_0.length c0_0, .slice A0_1 l0_1.length c0_1] 25 (0, 0)) (by (with_reducible repeat (first | refine blk_drewN ?_ _ | refine blk_drew ?_ | refine blk_alloc ?_ _)); exact BK137.out)) : gb137 ≠ gb146)); have n8_ := Aside0.mk ((by rw [hg]; exact Nat.ne_of_gt (blk_lt (g := gb137) (o := .cells #[.slice A0_0 l0_0.length c0_0, .slice A0_1 l0_1.length c0_1] 25 (0, 0)) (by (with_reducible repeat (first | refine blk_drewN ?_ _ | refine blk_drew ?_ | refine blk_alloc ?_ _)); exact BK137.out)) : gb146 ≠ gb137)); clear HO141; clear HO144; clear BK137; clear HB; have HO141 := n0_; have HO144 := n1_; have BK137 := n2_; have HB := n3_; have BK146 := n4_; have GW146 := n5_; have GE146 := n6_; have NB137_146 := n7_; have NB146_137 := n8_; clear n0_ n1_ n2_ n3_ n4_ n5_ n6_ n7_ n8_; clear hb hbox hg; obtain ⟨Ao15, co15, eo15⟩ := Kd.R_slice HO141.out; subst eo15; have hnb16 := NB146_137.out; have hnc16 := NB137_146.out; have hcz17_0 : w14.cell? ⟨gb146, 0, none⟩ = some (.slice none 0 0) := (blk_cell BK146.out 0).trans rfl; have hcz17_1 : w14.cell? ⟨gb146, 1, none⟩ = some (.slice none 0 0) := (blk_cell BK146.out 1).trans rfl; have hfz17_0 := blk_frozen BK146.out 0; have hfz17_1 := blk_frozen BK146.out 1; obtain ⟨Ao18, co18, eo18⟩ := Kd.R_slice HO144.out; subst eo18; have p147 : 0 ≤ (a1 : Int) := of_decide_eq_true (by first | (with_reducible assumption) | assumption); have q147 : a1 < (t139.length : Int) := of_decide_eq_true (by first | (with_reducible assumption) | assumption); obtain ⟨ad147, e147, hx147_0⟩ := Kd.at_string (Kd.R_reads' HO141.out).2.2 a1 p147 q147; cases e147; have hn147_0 : ad147.block ≠ gb146 := Kd.own_blk (Kd.R_ne HO141.out BK146.out (by decide)); have hn147_1 : ad147.block ≠ gb146 := Kd.own_blk (Kd.R_ne HO141.out BK146.out (by decide)); replace hx147_0 := (cell_far (p := ⟨gb146, 0, none⟩) (by first | (rw [add_block]; exact hn147_0) | (show (Addr.add _ _).block ≠ _; rw [add_block]; exact hn147_0) | exact hn147_0) (.slice (some ad147) t139.length co15)).trans hx147_0; replace hx147_0 := (cell_far (p := ⟨gb146, 1, none⟩) (by first | (rw [add_block]; exact hn147_1) | (show (Addr.add _ _).block ≠ _; rw [add_block]; exact hn147_1) | exact hn147_1) (.slice Ao18 t142.length co18)).trans hx147_0; clear hn147_0; clear hn147_1; replace p147 := eq_true p147; replace q147 := eq_true q147))
          go_ret2
          exact ⟨by first | rfl | (simp [errW_none, errW_some] <;> rfl) | (simp [*, errW_none, errW_some] <;> rfl), by repeat (first | (with_reducible first | exact HB.out | apply below_alloc | apply pw_below_drewN | apply below_drew1 | refine below_set ?_ GE137.out | refine below_set ?_ GE146.out) | exact HB.out)⟩
        · rw [if_neg c8] at H
          exact absurd H (by simp)
      · rw [if_neg c7] at H
        exact absurd H (by simp)
    · rw [if_neg c6] at H
      have c6b0 : (t145 == 0) = false := beq_eq_false_iff_ne.mpr c6
      have c6b1 : (t145 != 0) = true := bne_iff_ne.mpr c6
      simp only [Option.some.injEq, Prod.mk.injEq] at H
      obtain ⟨rfl, rfl⟩ := H
      go_enter Try.func15, Try.ntmps15
      go_wp2_with (first | ((with_reducible refine gate_dst (N := 2) rfl ?_); refine box_event ?hg (N := 2) ?hd (cs := #[.slice A0_0 l0_0.length c0_0, .slice A0_1 l0_1.length c0_1]) (t := 25) ?hr ?_; (case hd => rfl); (case hg => rfl); (case hr => first | (go_simp; done) | (go_simp; rfl)); intro gb137 hg w19 hbox hb; have n0_ := Aside0.mk (below_step (by repeat (first | (with_reducible first | exact HB.out | apply below_alloc | apply pw_below_drewN | apply below_drew1) | exact HB.out)) hb); have n1_ := Aside0.mk (hbox); have n2_ := Aside0.mk ((by rw [hg]; exact (below_size (by repeat (first | (with_reducible first | exact HB.out | apply below_alloc | apply pw_below_drewN | apply below_drew1) | exact HB.out))) : w.heap.size ≤ gb137)); have n3_ := Aside0.mk ((by rw [hg]; exact (below_size (by repeat (first | (with_reducible first | exact HB.out | apply below_alloc | apply pw_below_drewN | apply below_drew1) | exact HB.out))) : w.heap.size ≤ gb137)); clear HB; have HB := n0_; have BK137 := n1_; have GW137 := n2_; have GE137 := n3_; clear n0_ n1_ n2_ n3_; clear hb hbox hg; have hcz20_0 : w19.cell? ⟨gb137, 0, none⟩ = some (.slice A0_0 l0_0.length c0_0) := (blk_cell BK137.out 0).trans rfl; have hcz20_1 : w19.cell? ⟨gb137, 1, none⟩ = some (.slice A0_1 l0_1.length c0_1) := (blk_cell BK137.out 1).trans rfl; have hfz20_0 := blk_frozen BK137.out 0; have hfz20_1 := blk_frozen BK137.out 1) | ((with_reducible refine gate_callee (f := 41) rfl ?_); refine goesL_ (some 11) rfl rfl Try.func41 (by kernel_rfl) rfl #[.agg #[.slice A0_0 l0_0.length c0_0, .slice A0_1 l0_1.length c0_1], .int .i64 a1] rfl (by (try simp only [List.map_toArray, List.map_cons, List.map_nil]); first | done | rfl | (simp only [List.length_drop, List.length_take]; rfl)) ?_; (with_reducible refine (disk_open.calls _ _ l0_0 _ _ l0_1 a1 t138 _ ?side1 ?side2 ?side3 ?side4 A3.out).mono ?_); (case side1 => repeat (first | exact (Kd.C_below HR0_0.out HB.out) | (with_reducible refine Kd.C_alloc ?_ _) | (with_reducible refine Kd.C_drewN ?_ _) | (with_reducible refine Kd.C_drew ?_))); (case side2 => exact HC0_0.out); (case side3 => repeat (first | exact (Kd.C_below HR0_1.out HB.out) | (with_reducible refine Kd.C_alloc ?_ _) | (with_reducible refine Kd.C_drewN ?_ _) | (with_reducible refine Kd.C_drew ?_))); (case side4 => exact HC0_1.out); rintro e w21 ⟨rfl, hb⟩; refine ⟨_, rfl, ?_⟩; have n0_ := Aside0.mk (blk_below (g := gb137) (o := .cells #[.slice A0_0 l0_0.length c0_0, .slice A0_1 l0_1.length c0_1] 25 (0, 0)) (by (with_reducible repeat (first | refine blk_drewN ?_ _ | refine blk_drew ?_ | refine blk_alloc ?_ _)); exact BK137.out) hb); have n1_ := Aside0.mk (below_step (by repeat (first | (with_reducible first | exact HB.out | apply below_alloc | apply pw_below_drewN | apply below_drew1 | refine below_set ?_ GE137.out) | exact HB.out)) hb); clear BK137; clear HB; have BK137 := n0_; have HB := n1_; clear n0_ n1_; (try clear hb); (try clear hb2); (try clear hk); (try clear hi); have hcz22_0 : w21.cell? ⟨gb137, 0, none⟩ = some (.slice A0_0 l0_0.length c0_0) := (blk_cell BK137.out 0).trans rfl; have hcz22_1 : w21.cell? ⟨gb137, 1, none⟩ = some (.slice A0_1 l0_1.length c0_1) := (blk_cell BK137.out 1).trans rfl; have hfz22_0 := blk_frozen BK137.out 0; have hfz22_1 := blk_frozen BK137.out 1) | ((with_reducible refine gate_callee (f := 17) rfl ?_); refine goesL_ (some 17) rfl rfl Try.func17 (by kernel_rfl) rfl #[.agg #[.slice A0_0 l0_0.length c0_0, .slice A0_1 l0_1.length c0_1]] rfl (by (try simp only [List.map_toArray, List.map_cons, List.map_nil]); first | done | rfl | (simp only [List.length_drop, List.length_take]; rfl)) ?_; (with_reducible refine (disk_Sync.calls _ _ l0_0 _ _ l0_1 t139 t142 t145 _ ?side1 ?side2 ?side3 ?side4 A5.out).mono ?_); (case side1 => repeat (first | exact (Kd.C_below HR0_0.out HB.out) | (with_reducible refine Kd.C_alloc ?_ _) | (with_reducible refine Kd.C_drewN ?_ _) | (with_reducible refine Kd.C_drew ?_))); (case side2 => exact HC0_0.out); (case side3 => repeat (first | exact (Kd.C_below HR0_1.out HB.out) | (with_reducible refine Kd.C_alloc ?_ _) | (with_reducible refine Kd.C_drewN ?_ _) | (with_reducible refine Kd.C_drew ?_))); (case side4 => exact HC0_1.out); rintro e w23 ⟨v140, v143, rfl, ho0, ho1, hb⟩; refine ⟨_, rfl, ?_⟩; have n0_ := Aside0.mk (Kd.R_lower ho0 (below_size (by repeat (first | (with_reducible first | exact HB.out | apply below_alloc | apply pw_below_drewN | apply below_drew1 | refine below_set ?_ GE137.out) | exact HB.out)))); have n1_ := Aside0.mk (Kd.R_lower ho1 (below_size (by repeat (first | (with_reducible first | exact HB.out | apply below_alloc | apply pw_below_drewN | apply below_drew1 | refine below_set ?_ GE137.out) | exact HB.out)))); have n2_ := Aside0.mk (blk_below (g := gb137) (o := .cells #[.slice A0_0 l0_0.length c0_0, .slice A0_1 l0_1.length c0_1] 25 (0, 0)) (by (with_reducible repeat (first | refine blk_drewN ?_ _ | refine blk_drew ?_ | refine blk_alloc ?_ _)); exact BK137.out) hb); have n3_ := Aside0.mk (below_step (by repeat (first | (with_reducible first | exact HB.out | apply below_alloc | apply pw_below_drewN | apply below_drew1 | refine below_set ?_ GE137.out) | exact HB.out)) hb); clear BK137; clear HB; have HO141 := n0_; have HO144 := n1_; have BK137 := n2_; have HB := n3_; clear n0_ n1_ n2_ n3_; (try clear hb); (try clear hb2); (try clear hk); (try clear hi); (try clear ho0); (try clear ho1)) | ((with_reducible refine gate_dst (N := 7) rfl ?_); refine box_event ?hg (N := 7) ?hd (cs := #[.slice none 0 0, .slice none 0 0]) (t := 25) ?hr ?_; (case hd => rfl); (case hg => rfl); (case hr => first | (go_simp; done) | (go_simp; rfl)); intro gb146 hg w24 hbox hb; have n0_ := Aside0.mk (Kd.R_below (by (with_reducible repeat (first | apply Kd.R_alloc | apply Kd.R_drewN | apply Kd.R_drew)); exact HO141.out) hb); have n1_ := Aside0.mk (Kd.R_below (by (with_reducible repeat (first | apply Kd.R_alloc | apply Kd.R_drewN | apply Kd.R_drew)); exact HO144.out) hb); have n2_ := Aside0.mk (blk_below (g := gb137) (o := .cells #[.slice A0_0 l0_0.length c0_0, .slice A0_1 l0_1.length c0_1] 25 (0, 0)) (by (with_reducible repeat (first | refine blk_drewN ?_ _ | refine blk_drew ?_ | refine blk_alloc ?_ _)); exact BK137.out) hb); have n3_ := Aside0.mk (below_step (by repeat (first | (with_reducible first | exact HB.out | apply below_alloc | apply pw_below_drewN | apply below_drew1 | refine below_set ?_ GE137.out) | exact HB.out)) hb); have n4_ := Aside0.mk (hbox); have n5_ := Aside0.mk ((by rw [hg]; exact (below_size (by repeat (first | (with_reducible first | exact HB.out | apply below_alloc | apply pw_below_drewN | apply below_drew1 | refine below_set ?_ GE137.out) | exact HB.out))) : w.heap.size ≤ gb146)); have n6_ := Aside0.mk ((by rw [hg]; exact (below_size (by repeat (first | (with_reducible first | exact HB.out | apply below_alloc | apply pw_below_drewN | apply below_drew1 | refine below_set ?_ GE137.out) | exact HB.out))) : w.heap.size ≤ gb146)); have n7_ := Aside0.mk ((by rw [hg]; exact Nat.ne_of_lt (blk_lt (g := gb137) (o := .cells #[.slice A0_0 l0_0.length c0_0, .slice A0_1 l0_1.length c0_1] 25 (0, 0)) (by (with_reducible repeat (first | refine blk_drewN ?_ _ | refine blk_drew ?_ | refine blk_alloc ?_ _)); exact BK137.out)) : gb137 ≠ gb146)); have n8_ := Aside0.mk ((by rw [hg]; exact Nat.ne_of_gt (blk_lt (g := gb137) (o := .cells #[.slice A0_0 l0_0.length c0_0, .slice A0_1 l0_1.length c0_1] 25 (0, 0)) (by (with_reducible repeat (first | refine blk_drewN ?_ _ | refine blk_drew ?_ | refine blk_alloc ?_ _)); exact BK137.out)) : gb146 ≠ gb137)); clear HO141; clear HO144; clear BK137; clear HB; have HO141 := n0_; have HO144 := n1_; have BK137 := n2_; have HB := n3_; have BK146 := n4_; have GW146 := n5_; have GE146 := n6_; have NB137_146 := n7_; have NB146_137 := n8_; clear n0_ n1_ n2_ n3_ n4_ n5_ n6_ n7_ n8_; clear hb hbox hg; obtain ⟨Ao25, co25, eo25⟩ := Kd.R_slice HO141.out; subst eo25; have hnb26 := NB146_137.out; have hnc26 := NB137_146.out; have hcz27_0 : w24.cell? ⟨gb146, 0, none⟩ = some (.slice none 0 0) := (blk_cell BK146.out 0).trans rfl; have hcz27_1 : w24.cell? ⟨gb146, 1, none⟩ = some (.slice none 0 0) := (blk_cell BK146.out 1).trans rfl; have hfz27_0 := blk_frozen BK146.out 0; have hfz27_1 := blk_frozen BK146.out 1; obtain ⟨Ao28, co28, eo28⟩ := Kd.R_slice HO144.out; subst eo28))
      go_ret2
      exact ⟨by first | rfl | (simp [errW_none, errW_some] <;> rfl) | (simp [*, errW_none, errW_some] <;> rfl), by repeat (first | (with_reducible first | exact HB.out | apply below_alloc | apply pw_below_drewN | apply below_drew1 | refine below_set ?_ GE137.out | refine below_set ?_ GE146.out) | exact HB.out)⟩
  · rw [if_neg c4] at H
    have c4b0 : (t138 == 0) = false := beq_eq_false_iff_ne.mpr c4
    have c4b1 : (t138 != 0) = true := bne_iff_ne.mpr c4
    simp only [Option.some.injEq, Prod.mk.injEq] at H
    obtain ⟨rfl, rfl⟩ := H
    go_enter Try.func15, Try.ntmps15
    go_wp2_with (first | ((with_reducible refine gate_dst (N := 2) rfl ?_); refine box_event ?hg (N := 2) ?hd (cs := #[.slice A0_0 l0_0.length c0_0, .slice A0_1 l0_1.length c0_1]) (t := 25) ?hr ?_; (case hd => rfl); (case hg => rfl); (case hr => first | (go_simp; done) | (go_simp; rfl)); intro gb137 hg w29 hbox hb; have n0_ := Aside0.mk (below_step (by repeat (first | (with_reducible first | exact HB.out | apply below_alloc | apply pw_below_drewN | apply below_drew1) | exact HB.out)) hb); have n1_ := Aside0.mk (hbox); have n2_ := Aside0.mk ((by rw [hg]; exact (below_size (by repeat (first | (with_reducible first | exact HB.out | apply below_alloc | apply pw_below_drewN | apply below_drew1) | exact HB.out))) : w.heap.size ≤ gb137)); have n3_ := Aside0.mk ((by rw [hg]; exact (below_size (by repeat (first | (with_reducible first | exact HB.out | apply below_alloc | apply pw_below_drewN | apply below_drew1) | exact HB.out))) : w.heap.size ≤ gb137)); clear HB; have HB := n0_; have BK137 := n1_; have GW137 := n2_; have GE137 := n3_; clear n0_ n1_ n2_ n3_; clear hb hbox hg; have hcz30_0 : w29.cell? ⟨gb137, 0, none⟩ = some (.slice A0_0 l0_0.length c0_0) := (blk_cell BK137.out 0).trans rfl; have hcz30_1 : w29.cell? ⟨gb137, 1, none⟩ = some (.slice A0_1 l0_1.length c0_1) := (blk_cell BK137.out 1).trans rfl; have hfz30_0 := blk_frozen BK137.out 0; have hfz30_1 := blk_frozen BK137.out 1) | ((with_reducible refine gate_callee (f := 41) rfl ?_); refine goesL_ (some 11) rfl rfl Try.func41 (by kernel_rfl) rfl #[.agg #[.slice A0_0 l0_0.length c0_0, .slice A0_1 l0_1.length c0_1], .int .i64 a1] rfl (by (try simp only [List.map_toArray, List.map_cons, List.map_nil]); first | done | rfl | (simp only [List.length_drop, List.length_take]; rfl)) ?_; (with_reducible refine (disk_open.calls _ _ l0_0 _ _ l0_1 a1 t138 _ ?side1 ?side2 ?side3 ?side4 A3.out).mono ?_); (case side1 => repeat (first | exact (Kd.C_below HR0_0.out HB.out) | (with_reducible refine Kd.C_alloc ?_ _) | (with_reducible refine Kd.C_drewN ?_ _) | (with_reducible refine Kd.C_drew ?_))); (case side2 => exact HC0_0.out); (case side3 => repeat (first | exact (Kd.C_below HR0_1.out HB.out) | (with_reducible refine Kd.C_alloc ?_ _) | (with_reducible refine Kd.C_drewN ?_ _) | (with_reducible refine Kd.C_drew ?_))); (case side4 => exact HC0_1.out); rintro e w31 ⟨rfl, hb⟩; refine ⟨_, rfl, ?_⟩; have n0_ := Aside0.mk (blk_below (g := gb137) (o := .cells #[.slice A0_0 l0_0.length c0_0, .slice A0_1 l0_1.length c0_1] 25 (0, 0)) (by (with_reducible repeat (first | refine blk_drewN ?_ _ | refine blk_drew ?_ | refine blk_alloc ?_ _)); exact BK137.out) hb); have n1_ := Aside0.mk (below_step (by repeat (first | (with_reducible first | exact HB.out | apply below_alloc | apply pw_below_drewN | apply below_drew1 | refine below_set ?_ GE137.out) | exact HB.out)) hb); clear BK137; clear HB; have BK137 := n0_; have HB := n1_; clear n0_ n1_; (try clear hb); (try clear hb2); (try clear hk); (try clear hi)))
    go_ret2
    exact ⟨by first | rfl | (simp [errW_none, errW_some] <;> rfl) | (simp [*, errW_none, errW_some] <;> rfl), by repeat (first | (with_reducible first | exact HB.out | apply below_alloc | apply pw_below_drewN | apply below_drew1 | refine below_set ?_ GE137.out) | exact HB.out)⟩

end Go.Proofs.Ytoibofhmlokglaa.P
/-
  What disk.Read and disk.Write tell, plainly.
-/
namespace Go.Proofs.Ytoibofhmlokglaa.P
open Go.RowKit Go.Proofs.YtoibofhmlokglaaW.PrintWords Go.Proofs.YtoibofhmlokglaaW.PrintLast Go.Proofs.Plain

theorem wrap_at {x : Int} (h0 : -9223372036854775808 ≤ x) (h1 : x ≤ 9223372036854775807) : wrap64 x = x := by unfold wrap64; omega

/-- What disk.Read answers. -/
def readV (l0 : List ByteArray) (l1 : List S40) (at_ : Int) : ByteArray × Int :=
  if checkB l0 l1 = false then (⟨#[]⟩, 1) else if at_ < 0 ∨ at_ ≥ (l0.length : Int) then (⟨#[]⟩, 40) else (rdOf ByteArray.empty (applyW (fun _ => true) 0 l1 l0) at_, 0)

theorem read_f (l0 : List ByteArray) (l1 : List S40) (at_ : Int) : disk_Read.f l0 l1 at_ = some (readV l0 l1 at_) := by
  unfold disk_Read.f readV
  rw [open_f]
  simp only [Option.bind_some]
  by_cases h1 : checkB l0 l1 = false
  · simp [h1]
  · rw [if_neg h1, if_neg h1]
    by_cases h2 : at_ < 0 ∨ at_ ≥ (l0.length : Int)
    · simp [h2]
    · rw [if_neg h2, if_neg h2, if_pos rfl]
      have h1' : checkB l0 l1 = true := by simpa using h1
      unfold disk_Sync.f doneV
      rw [if_pos h1']
      simp only [Option.bind_some]
      rw [if_pos trivial, if_pos (by omega), if_pos (by rw [applyW_length]; omega)]

theorem check_write {l0 : List ByteArray} {l1 : List S40} {at_ : Int} {s : ByteArray} (h : checkB l0 l1 = true) (ha : ¬ (at_ < 0 ∨ at_ ≥ (l0.length : Int))) (hs : longS s = false) (hl : ¬ l1.length = 100) :
    checkB l0 (l1 ++ [⟨at_, s⟩]) = true := by
  unfold checkB at h ⊢
  simp only [Bool.and_eq_true, decide_eq_true_eq, Bool.not_eq_true'] at h ⊢
  obtain ⟨⟨⟨⟨h1, h2⟩, h3⟩, h4⟩, h5⟩ := h
  refine ⟨⟨⟨⟨h1, h2⟩, by simp; omega⟩, h4⟩, ?_⟩
  rw [List.any_append, h5]
  simp only [List.any_cons, List.any_nil, Bool.or_false, Bool.false_or]
  unfold oddW
  rw [hs]
  simp only [Bool.or_false, Bool.or_eq_false_iff, decide_eq_false_iff_not]
  omega

theorem rdOf_set (l : List ByteArray) (i : Int) (s : ByteArray) (k : Int) (hi : 0 ≤ i) (hil : i < (l.length : Int)) (hk : 0 ≤ k) : rdOf ByteArray.empty (l.set i.toNat s) k = if k = i then s else rdOf ByteArray.empty l k := by
  unfold rdOf
  rw [List.getD_eq_getElem?_getD, List.getD_eq_getElem?_getD, List.getElem?_set]
  by_cases h : k = i
  · subst h
    rw [if_pos rfl, if_pos rfl, if_pos (by omega)]; rfl
  · rw [if_neg h, if_neg (by omega)]
end Go.Proofs.Ytoibofhmlokglaa.P
/-
  wal.records, by hand: an iterator over a log's texts.
-/
namespace Go.Proofs.Ytoibofhmlokglaa.P
open Go.RowKit Go.Shelf Go.Proofs.CodecPlain Go.Proofs.YtoibofhmlokglaaW.PrintWords Go.Proofs.YtoibofhmlokglaaW.PrintLast Go.Proofs.YtoibofhmlokglaaW.PrintMore

attribute [local go_sem] Oper.semAt_some

/-- The block B, and the one to which a slice in it points. -/
def OwnB (B : Nat) (W : World) (k : Nat) : Prop := k = B ∨ ∃ n c, W.cell? ⟨B, 0, none⟩ = some (.slice (some ⟨k, 0, none⟩) n c)
/-- What a round keeps: every cells' block but these; and it owns no elder one that it did not own. -/
structure KeepOwn (B : Nat) (W W' : World) : Prop where
  size : W.heap.size ≤ W'.heap.size
  same : ∀ (k : Nat) (o : Obj), W.heap[k]? = some o → o.isCells = true → ¬ OwnB B W k → W'.heap[k]? = some o
  own : ∀ k, k < W.heap.size → OwnB B W' k → OwnB B W k
theorem KeepOwn.trans {B : Nat} {X Y Z : World} (h : KeepOwn B X Y) (g : KeepOwn B Y Z) : KeepOwn B X Z :=
  ⟨Nat.le_trans h.size g.size, fun k o hk ho hn => g.same k o (h.same k o hk ho hn) ho (fun q => hn (h.own k (Array.getElem?_eq_some_iff.1 hk).1 q)), fun k hk q => h.own k hk (g.own k (Nat.lt_of_lt_of_le hk h.size) q)⟩
theorem KeepOwn.putObj {B : Nat} {W : World} {l : Nat} {o : Obj} (o' : Obj) (hl : W.heap[l]? = some o) (ho : o.isCells = false) (hne : B ≠ l) : KeepOwn B W (W.putObj l o') := by
  refine ⟨by simp, fun k ob hk hc _ => ?_, fun k hk q => ?_⟩
  · have hkl : k ≠ l := by
      intro e
      subst e
      rw [hl] at hk
      cases hk
      rw [ho] at hc
      cases hc
    exact (World.putObj_heap_other hkl).trans hk
  · rcases q with q | ⟨n, c, q⟩
    · exact .inl q
    · refine .inr ⟨n, c, ?_⟩
      rw [← q]
      exact (World.cell?_of_block (World.putObj_heap_other hne)).symm
/-- What a disk's blocks say. -/
def contV (l0 : List ByteArray) (l1 : List S40) : List ByteArray := applyW (fun _ => true) 0 l1 l0
theorem grown_of_below0 {W W' : World} (h : Below W.heap.size W W') : W.grownBy W' none := ⟨h.os, h.tape, h.output, h.size, fun k hk _ => h.block k hk⟩
theorem abides_below {β : Type} {B : Nat} {J : β → World → Prop} (h : AbidesFrom B J) {s : β} {W W' : World} (hs : J s W) (hb : Below W.heap.size W W') : J s W' :=
  h s W W' none hs (grown_of_below0 hb) (fun _ e => by cases e)
/-- A log's texts, from a block on. -/
def recsV (ep : Int) : Int → List ByteArray → List ByteArray
  | _, [] => []
  | at_, s :: l => if (recW s).2.2.2 = true ∧ (recW s).1 = ep ∧ (recW s).2.1 = at_ then (recW s).2.2.1 :: recsV ep (at_ + 1) l else []
theorem own_below {B : Nat} {W W' : World} (hB : B < W.heap.size) (hb : Below W.heap.size W W') {k : Nat} (h : OwnB B W' k) : OwnB B W k := by
  rcases h with h | ⟨n, c, h⟩
  · exact .inl h
  · exact .inr ⟨n, c, (World.cell?_of_block (hb.block B hB)).symm.trans h⟩
theorem addr_two (g p j : Nat) : ((⟨g, 0, none⟩ : Addr).add p).add j = ⟨g, p + j, none⟩ := by
  unfold Addr.add
  by_cases h1 : p = 0 <;> by_cases h2 : j = 0 <;> simp [h1, h2]
theorem wal_step {j p n : Nat} (h : j < n - p) (hn : n ≤ 200) : wrap64 ((j : Int) + 1) = ((j + 1 : Nat) : Int) := by unfold wrap64; omega
theorem wal_less {j p n : Nat} (h : j < n - p) : n - p - (((j + 1 : Nat) : Int)).toNat < n - p - ((j : Int)).toNat := by omega
/-- What the iterator asks of the world in which it is called. -/
def StW (B Be : Nat) (W : World) : Prop := B < W.heap.size ∧ ¬ OwnB B W Be ∧ ∀ k, OwnB B W k → k < W.heap.size

set_option maxHeartbeats 1000000 in
theorem wal_records_in (m : Nat) (A0 : Option Addr) (k0 c0 : Nat) (A1 : Option Addr) (k1 c1 : Nat) (fr ep : Int) (w : World) :
    CallsIn Fence.wide m Try.prog 52 #[.agg #[.slice A0 k0 c0, .slice A1 k1 c1], .int .i64 fr, .int .i64 ep] w fun e w' => e = .returned (.func (.func 62) #[] #[.pointer (some ⟨w.heap.size, 0, none⟩), .pointer (some ⟨w.heap.size + 1, 0, none⟩), .pointer (some ⟨w.heap.size + 1 + 1, 0, none⟩)]) ∧
      w' = ((w.alloc (.cells #[.slice A0 k0 c0, .slice A1 k1 c1] 25)).alloc (.cells #[.int .i64 fr] 3)).alloc (.cells #[.int .i64 ep] 3) := by
  refine callsIn_of_wp Try.func52 rfl trivial ?_ rfl
  simp only [Try.ntmps52, List.size_toArray, List.length_cons, List.length_nil, Nat.reduceAdd, Nat.reduceSub, Array.replicate_succ, Array.replicate_zero, List.push_toArray, List.append_toArray, List.nil_append, List.cons_append]
  gi_wp2
  go_ret
  exact ⟨rfl, rfl⟩

set_option maxRecDepth 100000 in
set_option maxHeartbeats 4000000 in
theorem wal_records1_in (n : Nat) (hn : 1 ≤ n) (w0 : World) (A0 : Option Addr) (c0 : Nat) (l0 : List ByteArray) (A1 : Option Addr) (c1 : Nat) (l1 : List S40) (hr0 : Kd.C Kd.string w0 A0 l0.length l0) (hc0 : l0.length ≤ c0) (hr1 : Kd.C k40 w0 A1 l1.length l1) (hc1 : l1.length ≤ c1)
    (fr ep : Int) (hck : checkB l0 l1 = true) (hf0 : 0 ≤ fr) (hf1 : fr < l0.length) (B lo Bd Bf Be : Nat) (J Jx : List ByteArray → World → Prop) (W : World) (hW : Below w0.heap.size w0 W) (hSt : StW B Be W) (hJ : AbidesFrom W.heap.size J)
    (hY : ∀ pre x W1, J pre W1 → pre.length < 200 → YieldAt Fence.wide (n - 1) Try.prog lo #[.string x] W1 fun e W' =>
      (e = .returned (.bool true) ∧ J (pre ++ [x]) W' ∧ KeepOwn B W1 W') ∨ (e = .returned (.bool false) ∧ Jx (pre ++ [x]) W'))
    (hBd : W.heap[Bd]? = some (.cells #[.slice A0 l0.length c0, .slice A1 l1.length c1] 25 (0, 0))) (hBf : Boxed W Bf 3 (.int .i64 fr)) (hBe : Boxed W Be 3 (.int .i64 ep)) (h0 : J [] W) :
    CallsIn Fence.wide n Try.prog 62 #[.func (.yield lo) #[] #[], .pointer (some ⟨Bd, 0, none⟩), .pointer (some ⟨Bf, 0, none⟩), .pointer (some ⟨Be, 0, none⟩)] W fun e W' => (∃ v, e = .returned v) ∧
      ((∃ xs, xs = recsV ep 0 ((contV l0 l1).drop fr.toNat) ∧ J xs W') ∨ (∃ pre, Jx pre W')) := by
  obtain ⟨p, rfl⟩ := Int.eq_ofNat_of_zero_le hf0
  simp only [Int.ofNat_eq_natCast, Int.toNat_natCast] at *
  have hlen : (contV l0 l1).length = l0.length := applyW_length _ _ _ _
  obtain ⟨hb1, hb2, _⟩ := check_len hck
  have hsy : disk_Sync.f l0 l1 = some (contV l0 l1, [], 0) := by unfold disk_Sync.f doneV; rw [if_pos hck]; rfl
  obtain ⟨L, hL⟩ : ∃ L, L = contV l0 l1 := ⟨_, rfl⟩
  rw [← hL] at hlen hsy ⊢
  have HSY := Aside0.mk (disk_Sync.calls A0 c0 l0 A1 c1 l1 L [] 0 W (Kd.C_below hr0 hW) hc0 (Kd.C_below hr1 hW) hc1 hsy)
  have d0 := blk_cell hBd 0
  have d1 := blk_cell hBd 1
  simp only [List.getElem?_toArray, List.getElem?_cons_zero, List.getElem?_cons_succ] at d0 d1
  have HY := Aside0.mk hY
  have HJ := Aside0.mk hJ
  have HST := Aside0.mk hSt
  have HBF := Aside0.mk hBf
  have HBE := Aside0.mk hBe
  obtain ⟨iS, hiS, _, hz1, _⟩ := info_parts (show (Try.prog.info? 9).map (fun i => (i.zero, i.size, i.bytes)) = some (some (.string ⟨#[]⟩), 1, 16) by kernel_rfl)
  clear hY hJ hSt hBf hBe hsy hr0 hr1 hW hBd hL hck
  refine callsIn_of_wp Try.func62 rfl trivial ?_ rfl
  simp only [Try.ntmps62, List.size_toArray, List.length_cons, List.length_nil, Nat.reduceAdd, Nat.reduceSub, Array.replicate_succ, Array.replicate_zero, List.push_toArray, List.append_toArray, List.nil_append, List.cons_append]
  gi_wp2
  refine ⟨trivial, (callsIn_wide.2 HSY.out).mono ?_⟩
  rintro e w1 ⟨v0, v1, rfl, hR0, hR1, hb⟩
  obtain ⟨g, c2, rfl, hg1, hg2, cells, hG⟩ := Kd.R_form hR0 (by omega)
  obtain ⟨A3, c3, rfl⟩ : ∃ A_ c_, v1 = .slice A_ 0 c_ := (by obtain ⟨A_, c_, h_⟩ := Kd.R_slice hR1; exact ⟨A_, c_, h_⟩)
  have hc2 := (Kd.R_reads' hR0).2.1
  have hcell : ∀ i : Nat, i < L.length → cells[i]? = some (.string (rdOf ByteArray.empty L (i : Int))) := by
    intro i hi
    have := (Kd.R_cell ByteArray.empty hR0 (i : Int) (by omega) (by omega)).1
    rw [Int.toNat_natCast, blk_cell hG i] at this
    exact this
  have HB1 := Aside0.mk hb
  have cf := ((HBF.out.kept (grown_of_below0 hb) (by simp)).alloc (.cells #[.slice (some ⟨g, 0, none⟩) L.length c2, .slice A3 0 c3] 25)).cell
  have HBE1 := Aside0.mk (HBE.out.kept (grown_of_below0 hb) (by simp))
  have hJ1 : J [] (w1.alloc (.cells #[.slice (some ⟨g, 0, none⟩) L.length c2, .slice A3 0 c3] 25)) := abides_below HJ.out (abides_below HJ.out h0 hb) ((Below.refl _ w1).alloc (Nat.le_refl _) _)
  obtain ⟨ad, had⟩ : ∃ ad, ad = (⟨g, 0, none⟩ : Addr).add p := ⟨_, rfl⟩
  have hcut : ∀ W : World, (Instr.slice 22 (.slice (some ⟨g, 0, none⟩) L.length c2) (some (.int .i64 (p : Int))) none none).run Try.prog W = .ok (.slice (some ad) (L.length - p) (c2 - p)) W := fun W' => by
    have h_ := cut_from (P := Try.prog) 22 9 .i64 Try.underlying22 hiS 1 hz1 (some ⟨g, 0, none⟩) L.length c2 (p : Int) (by omega) (by omega) W'
    rw [Int.toNat_natCast, if_neg (by omega), Nat.mul_one, Option.map_some, ← had] at h_
    exact h_
  have hu_ := Try.underlying22
  have HLEN := Aside0.mk hlen
  have hpl : p < L.length := by omega
  have HC2 := Aside0.mk hc2
  have HAD := Aside0.mk had
  have HCELL := Aside0.mk hcell
  have HG := Aside0.mk (blk_alloc hG (.cells #[.slice (some ⟨g, 0, none⟩) L.length c2, .slice A3 0 c3] 25))
  have HBX := Aside0.mk (hb.trans (((Below.refl _ w1).alloc (Nat.le_refl _) (.cells #[.slice (some ⟨g, 0, none⟩) L.length c2, .slice A3 0 c3] 25)).mono hb.size))
  have HON := Aside0.mk (show ¬ OwnB B (w1.alloc (.cells #[.slice (some ⟨g, 0, none⟩) L.length c2, .slice A3 0 c3] 25)) g ∧ ¬ OwnB B (w1.alloc (.cells #[.slice (some ⟨g, 0, none⟩) L.length c2, .slice A3 0 c3] 25)) Be from
    ⟨fun q => by have h_ := HST.out.2.2 g (own_below HST.out.1 HBX.out q); omega, fun q => HST.out.2.1 (own_below HST.out.1 HBX.out q)⟩)
  have HBW := Aside0.mk (show B < w1.heap.size by have h_ := HST.out.1; have h2_ := hb.size; omega)
  have HBE2 := Aside0.mk (HBE1.out.alloc (.cells #[.slice (some ⟨g, 0, none⟩) L.length c2, .slice A3 0 c3] 25))
  clear hR0 hR1 hb d0 d1 hlen hc2 had hcell hG hf0 hf1
  gi_wp2
  clear hcut cf
  gi_loopw [22] (fun i wr => ∃ j : Nat, j ≤ L.length - p ∧ i = .int .i64 j ∧ As (∃ pre, pre.length = j ∧ recsV ep 0 (L.drop p) = pre ++ recsV ep (j : Int) ((L.drop p).drop j) ∧ J pre wr) ∧ As (wr.heap[g]? = some (.cells cells 9 (0, 0))) ∧ As (Boxed wr Be 3 (.int .i64 ep)) ∧ As (¬ OwnB B wr g ∧ ¬ OwnB B wr Be ∧ B < wr.heap.size))
    (fun i _ => L.length - p - (intOf i).toNat)
  case atStart => exact ⟨0, Nat.zero_le _, rfl, ⟨[], rfl, rfl, hJ1⟩, ⟨HG.out⟩, ⟨HBE2.out⟩, ⟨HON.out.1, HON.out.2, by simp; have := HBW.out; omega⟩⟩
  case round =>
    obtain ⟨j, hj, rfl, hJp, hGr, hBer, hOr⟩ := hrel
    obtain ⟨pre, hpl2, hrc, hJ2⟩ := hJp.out
    have hlen' := HLEN.out
    by_cases hjl : j < L.length - p
    · have c1 : decide ((j : Int) < ((L.length - p : Nat) : Int)) = true := decide_eq_true (by omega)
      have c2_ : decide (j < L.length - p) = true := decide_eq_true hjl
      have p0 : (0 ≤ (j : Int)) = True := eq_true (by omega)
      have p1 : ((j : Int) < ((L.length - p : Nat) : Int)) = True := eq_true (by omega)
      obtain ⟨s, hs⟩ : ∃ s, s = rdOf ByteArray.empty L ((p + j : Nat) : Int) := ⟨_, rfl⟩
      have hx : wr.cell? (ad.add j) = some (.string s) := by
        rw [HAD.out, addr_two, blk_cell hGr.out (p + j), HCELL.out (p + j) (by omega), hs]
      have hdr : (L.drop p).drop j = s :: (L.drop p).drop (j + 1) := by
        rw [List.drop_drop, List.drop_drop, hs]
        have h_ := List.drop_eq_getElem_cons (l := L) (i := p + j) (by omega)
        rw [h_]
        congr 1
        unfold rdOf
        rw [Int.toNat_natCast, List.getD_eq_getElem?_getD, List.getElem?_eq_getElem (by omega)]
        rfl
      rw [hdr] at hrc
      obtain ⟨a, b, tx, ok, hrec⟩ : ∃ a b tx ok, recW s = (a, b, tx, ok) := ⟨_, _, _, _, rfl⟩
      have HRD := Aside0.mk (fun W => wal_read_calls s W)
      rw [hrec] at HRD
      simp only at HRD
      have heq : ∀ W, Sem.run Try.prog (binOp .neq 75 (.agg #[.int .i64 a, .int .i64 b]) (.agg #[.int .i64 ep, .int .i64 (j : Int)])) W = .ok (.bool (!(a == ep && (b == (j : Int))))) W := fun W => by
        go_simp
        by_cases e1 : a = ep <;> by_cases e2 : b = (j : Int) <;> simp [e1, e2]
      have HRC := Aside0.mk hrc
      have HREC := Aside0.mk hrec
      have HJL := Aside0.mk hjl
      have HPL := Aside0.mk hpl2
      have hL200 : L.length ≤ 200 := by omega
      clear hs hdr hrc hrec hj hpl2 hlen'
      have cE := hBer.out.cell
      gi_wp2
      refine ⟨trivial, (callsIn_wide.2 (HRD.out _)).mono ?_⟩
      rintro e w3 ⟨rfl, hb3⟩
      have cE4 := ((hBer.out.kept (grown_of_below0 hb3) (by simp)).alloc (.cells #[.int .i64 a, .int .i64 b] 75)).cell
      have hBB := Aside0.mk (hb3.trans (((Below.refl _ w3).alloc (Nat.le_refl _) (.cells #[.int .i64 a, .int .i64 b] 75)).mono hb3.size))
      have hJ4 : J pre (w3.alloc (.cells #[.int .i64 a, .int .i64 b] 75)) := abides_below HJ.out hJ2 hBB.out
      clear hb3 cE hJ2
      by_cases hgood : ok = true ∧ a = ep ∧ b = (j : Int)
      · obtain ⟨rfl, rfl, rfl⟩ := hgood
        have hg1 : (a == a && ((j : Int) == (j : Int))) = true := by simp
        obtain ⟨fn, tmps, assign, body, hy, hR⟩ := HY.out pre tx _ hJ4 (by have h_ := HPL.out; omega)
        clear hJ4
        gi_wp2
        refine hR.mono ?_
        rintro e W3 (⟨rfl, hJ3, hk3⟩ | ⟨rfl, hJx3⟩)
        · have HK3 := Aside0.mk hk3
          clear hk3
          gi_wp2
          go_roundw
          case rel =>
            have hG4 := (hBB.out.block g (Array.getElem?_eq_some_iff.1 hGr.out).1).trans hGr.out
            have hE4 := (hBB.out.block Be hBer.out.lt).trans hBer.out
            have hB4 : B < (w3.alloc (.cells #[.int .i64 a, .int .i64 (j : Int)] 75)).heap.size := Nat.lt_of_lt_of_le hOr.out.2.2 hBB.out.size
            have hn1 : ¬ OwnB B (w3.alloc (.cells #[.int .i64 a, .int .i64 (j : Int)] 75)) g := fun q => hOr.out.1 (own_below hOr.out.2.2 hBB.out q)
            have hn2 : ¬ OwnB B (w3.alloc (.cells #[.int .i64 a, .int .i64 (j : Int)] 75)) Be := fun q => hOr.out.2.1 (own_below hOr.out.2.2 hBB.out q)
            have hg4 := (Array.getElem?_eq_some_iff.1 hG4).1
            have he4 := (Array.getElem?_eq_some_iff.1 hE4).1
            refine ⟨j + 1, Nat.succ_le_of_lt HJL.out, rfl, ⟨pre ++ [tx], by rw [List.length_append, HPL.out]; rfl, ?_, hJ3⟩, ⟨HK3.out.same g _ hG4 rfl hn1⟩, ⟨HK3.out.same Be _ hE4 rfl hn2⟩, ⟨fun q => hn1 (HK3.out.own g hg4 q), fun q => hn2 (HK3.out.own Be he4 q), Nat.lt_of_lt_of_le hB4 HK3.out.size⟩⟩
            rw [HRC.out, recsV, HREC.out]
            simp only
            rw [if_pos (by simp), List.append_assoc]
            rfl
          case measure => simp [intOf]; omega
        · gi_wp2
          refine bodyPost_ret (results_none rfl _ _ _) rfl ?_
          exact ⟨⟨_, rfl⟩, .inr ⟨_, hJx3⟩⟩
      · have hend : recsV ep 0 (L.drop p) = pre := by
          rw [HRC.out, recsV, HREC.out]
          simp only
          rw [if_neg hgood, List.append_nil]
        have HEND := Aside0.mk hend
        clear hend
        cases ok
        · gi_wp2
          refine ⟨fun _ h => (by cases h), ?_⟩
          gi_wp2
          refine bodyPost_ret (results_none rfl _ _ _) rfl ?_
          exact ⟨⟨_, rfl⟩, .inl ⟨_, rfl, by rw [HEND.out]; exact hJ4⟩⟩
        · have hbad : (a == ep && (b == (j : Int))) = false := by
            rw [Bool.and_eq_false_iff, beq_eq_false_iff_ne, beq_eq_false_iff_ne]
            by_cases e1 : a = ep
            · exact .inr (fun e2 => hgood ⟨rfl, e1, e2⟩)
            · exact .inl e1
          have HG5 := Aside0.mk hgood
          clear hgood
          gi_wp2
          refine ⟨fun _ h => (by cases h), ?_⟩
          gi_wp2
          refine bodyPost_ret (results_none rfl _ _ _) rfl ?_
          exact ⟨⟨_, rfl⟩, .inl ⟨_, rfl, by rw [HEND.out]; exact hJ4⟩⟩
    · have c1 : decide ((j : Int) < ((L.length - p : Nat) : Int)) = false := decide_eq_false (by omega)
      have c2_ : decide (j < L.length - p) = false := decide_eq_false hjl
      clear hBer hOr hGr
      gi_wp2
      go_end0
      refine ⟨⟨_, rfl⟩, .inl ⟨_, rfl, ?_⟩⟩
      rw [hrc, List.drop_of_length_le (l := L.drop p) (by rw [List.length_drop]; omega)]
      simpa [recsV] using hJ2
end Go.Proofs.Ytoibofhmlokglaa.P
/-
  slices.Collect over a log's texts, and wal.Open, by hand.
-/
namespace Go.Proofs.Ytoibofhmlokglaa.P
open Go.RowKit Go.Shelf Go.Proofs.CodecPlain Go.Proofs.YtoibofhmlokglaaW.PrintWords Go.Proofs.YtoibofhmlokglaaW.PrintLast Go.Proofs.YtoibofhmlokglaaW.PrintMore

attribute [local go_sem] Oper.semAt_some

theorem wpListIn_append_at {F : Fence} {n : Nat} {P : Program} (w : World) {ops : Array Oper} {rest : List Oper} {o : Oper} {a : Act} {Q : Exit → Act → World → Prop}
    (hg : o.guard = none) (s x : Operand) (t : TypeId) (hop : o.op = Op.call { callee := Callee.builtin Builtin.append, args := #[s, x], argTypes := #[t, t] })
    (base : Nat) (e : TypeId) (i : TypeInfo) (z : Value) (size bytes : Nat) (h1 : P.underlying t = some (.slice e)) (h2 : P.info? e = some i) (h3 : i.zero = some z) (h4 : i.size = size) (h5 : i.bytes = bytes) (h6 : z.cells.size = size) (h7 : 0 < size)
    (v : Value) (k : Nat) (xs : List Value) (hs : a.eval s = v) (hown : w.ownsRow base e size v k xs) (ad : Addr) (m c : Nat) (news : List Value) (hx : a.eval x = .slice (some ad) m c) (hn : news.length = m * size)
    (hc : ∀ j u, news[j]? = some u → w.cell? (ad.add j) = some u) (h1c : ∀ u ∈ news, u.oneCell' = true) (b1 : k + m ≤ maxLen) (b2 : (k + m) * bytes ≤ 140737488355328) (b3 : base ≤ w.heap.size)
    (hK : ∀ v' w', w'.ownsRow base e size v' (k + m) (xs ++ news) → w.grownBy w' v.ownBlock → (v'.ownBlock = v.ownBlock ∨ v'.ownBlock = some w.heap.size) → wpListIn F n P ops Q rest (a.put o.dst v') w') :
    wpListIn F n P ops Q (o :: rest) a w := by
  refine wpListIn_plain hg fun K hK' => ?_
  obtain ⟨v', w', hrun, r1, r2, _, r3⟩ := run_append_own_at (P := P) w base t o.type e i z size bytes h1 h2 h3 h4 h5 h6 h7 v k xs hown ad m c news hn hc h1c b1 b2 b3
  unfold Oper.wpIn
  refine ⟨?_, ?_⟩
  · simp [Oper.about, hop, resolve, Target.leads, Sem.run_pure]
  · rw [Oper.semAt_plain F _ _ (by rw [hop]; intro c hc'; cases hc')]
    simp [execOp, hop, resolve, invoke, builtin, hs, hx, hrun, Result.andThen]
    exact hK' _ _ (hK v' w' r1 r2 r3)
theorem zip1w (p : Tmp) (v : Value) (arr : Array Value) : (#[p].zip #[v]).foldl (fun t (x : Tmp × Value) => t.setIfInBounds x.1 x.2) arr = arr.setIfInBounds p v := by simp
/-- 'out = append(out, ..)' keeps all but its own row and its box. -/
theorem keepOwn_append {W w1 : World} {B : Nat} {e : TypeId} {base k : Nat} {v v' : Value} {xs : List Value} {tmp : Obj} (hv : Boxed W B 22 v) (hrow : W.ownsRow base e 1 v k xs) (hgrow : (W.alloc tmp).grownBy w1 v.ownBlock)
    (hat : v'.ownBlock = v.ownBlock ∨ v'.ownBlock = some (W.alloc tmp).heap.size) (hv2 : Boxed (w1.setCell ⟨B, 0, none⟩ v') B 22 v') : KeepOwn B W (w1.setCell ⟨B, 0, none⟩ v') := by
  have hsz : (W.alloc tmp).heap.size = W.heap.size + 1 := by simp
  have howns : ∀ q, v.ownBlock = some q → OwnB B W q := by
    intro q hq
    rcases hrow.2 with ⟨rfl, _⟩ | ⟨g, cap, cur, rfl, _⟩
    · simp [Value.ownBlock] at hq
    · have : g = q := by simpa [Value.ownBlock] using hq
      subst this
      exact .inr ⟨_, _, hv.cell⟩
  refine ⟨by have := hgrow.size; have h2 : (w1.setCell ⟨B, 0, none⟩ v').heap.size = w1.heap.size := by simp [World.setCell]
             omega, fun q o hq ho hn => ?_, fun q hq hown => ?_⟩
  · have hlt := (Array.getElem?_eq_some_iff.1 hq).1
    have hqB : q ≠ B := fun e => hn (.inl e)
    have h1 : w1.heap[q]? = (W.alloc tmp).heap[q]? := hgrow.block q (by omega) (fun e => hn (howns q e.symm))
    exact (Below.heap_setCell w1 ⟨B, 0, none⟩ v' q hqB).trans (h1.trans ((Below.heap_alloc W tmp q hlt).trans hq))
  · rcases hown with hown | ⟨n, c, hc⟩
    · exact .inl hown
    · rw [hv2.cell] at hc
      have hc' : v' = .slice (some ⟨q, 0, none⟩) n c := Option.some.inj hc
      rcases hat with hat | hat
      · exact howns q (by rw [← hat, hc']; simp [Value.ownBlock])
      · rw [hc'] at hat
        have : q = (W.alloc tmp).heap.size := by simpa [Value.ownBlock] using hat
        omega

set_option maxRecDepth 100000 in
set_option maxHeartbeats 4000000 in
theorem wal_collect_in (n : Nat) (hn : 3 ≤ n) (w0 : World) (A0 : Option Addr) (c0 : Nat) (l0 : List ByteArray) (A1 : Option Addr) (c1 : Nat) (l1 : List S40) (hr0 : Kd.C Kd.string w0 A0 l0.length l0) (hc0 : l0.length ≤ c0) (hr1 : Kd.C k40 w0 A1 l1.length l1) (hc1 : l1.length ≤ c1)
    (fr ep : Int) (hck : checkB l0 l1 = true) (hf0 : 0 ≤ fr) (hf1 : fr < l0.length) (Bd Bf Be : Nat) (w : World) (hW : Below w0.heap.size w0 w)
    (hBd : w.heap[Bd]? = some (.cells #[.slice A0 l0.length c0, .slice A1 l1.length c1] 25 (0, 0))) (hBf : Boxed w Bf 3 (.int .i64 fr)) (hBe : Boxed w Be 3 (.int .i64 ep)) :
    CallsIn Fence.wide n Try.prog 61 #[.slice none 0 0, .func (.func 62) #[] #[.pointer (some ⟨Bd, 0, none⟩), .pointer (some ⟨Bf, 0, none⟩), .pointer (some ⟨Be, 0, none⟩)]] w
      fun e W' => ∃ v, e = .returned v ∧ Kd.R Kd.string 9 W' w.heap.size (fun _ => True) v (recsV ep 0 ((contV l0 l1).drop fr.toNat)) ∧ Below w.heap.size w W' := by
  obtain ⟨i0, hi, hz0, hz1, hz2⟩ := info_parts (show (Try.prog.info? 9).map (fun i => (i.zero, i.size, i.bytes)) = some (some (.string ⟨#[]⟩), 1, 16) by kernel_rfl)
  have hcf := enters_of Try.func62 (by kernel_rfl) rfl
  obtain ⟨R, hR⟩ : ∃ R, R = recsV ep 0 ((contV l0 l1).drop fr.toNat) := ⟨_, rfl⟩
  have hRl : R.length ≤ 200 := by
    have h2 : ∀ (l : List ByteArray) (a : Int), (recsV ep a l).length ≤ l.length := by
      intro l
      induction l with
      | nil => intro a; simp [recsV]
      | cons s l ih => intro a; unfold recsV; split <;> simp; exact ih _
    have h3 := h2 ((contV l0 l1).drop fr.toNat) 0
    have h4 : (contV l0 l1).length = l0.length := applyW_length _ _ _ _
    have h5 := (check_len hck).2.1
    rw [← hR, List.length_drop] at h3
    omega
  rw [← hR]
  have bL := Boxed.new w 22 (.slice none 0 0)
  have hB0 : Below w.heap.size w (w.alloc (.cells #[.slice none 0 0] 22)) := (Below.refl _ w).alloc (Nat.le_refl _) _
  have hseq : SeqSt (n - 1) Try.prog 62 #[.pointer (some ⟨Bd, 0, none⟩), .pointer (some ⟨Bf, 0, none⟩), .pointer (some ⟨Be, 0, none⟩)] (fun x : ByteArray => #[Value.string x]) (KeepOwn w.heap.size) (fun xs => xs = R) (StW w.heap.size Be) 200 w := by
    intro lo J Jx W hb hst hJ _ hY h0
    have := wal_records1_in (n - 1) (by omega) w0 A0 c0 l0 A1 c1 l1 hr0 hc0 hr1 hc1 fr ep hck hf0 hf1 w.heap.size lo Bd Bf Be J Jx W (hW.trans (hb.mono hW.size)) hst hJ hY ((hb.block Bd (Array.getElem?_eq_some_iff.1 hBd).1).trans hBd) ((hb.block Bf hBf.lt).trans hBf) ((hb.block Be hBe.lt).trans hBe) h0
    rw [← hR] at this
    exact this
  have hBlt := hBe.lt
  clear hr0 hr1 hW hBd hBf hck hf0 hf1
  refine callsIn_of_wp_marks Try.func61 rfl trivial ?_ rfl
  simp only [Try.ntmps61, List.size_toArray, List.length_cons, List.length_nil, Nat.reduceAdd, Nat.reduceSub, Array.replicate_succ, Array.replicate_zero, List.push_toArray, List.append_toArray, List.nil_append, List.cons_append]
  gi_wp2
  refine wpIn_rangeSt (by omega) (gf := 62) (lb := #[.pointer (some ⟨Bd, 0, none⟩), .pointer (some ⟨Bf, 0, none⟩), .pointer (some ⟨Be, 0, none⟩)]) rfl hcf hseq ?hst (fun h k => h.trans k) ?hkb hB0 (fun _ => rfl)
    (fun pre W => (∃ v, Boxed W w.heap.size 22 v ∧ W.ownsRow w.heap.size 9 1 v pre.length (pre.map Value.string) ∧ True) ∧ Below w.heap.size w W) (fun _ _ _ => False)
    (OwnFrom.and (Own.from (holdsRow_own w.heap.size w.heap.size 22 9 1 (fun pre : List ByteArray => pre.length) (fun pre => pre.map Value.string) (fun _ _ => True)) _) (ownFrom_below (Nat.le_refl _) (by simp)))
    (fun _ _ _ _ _ hs _ _ => hs) ⟨⟨_, bL, ⟨rfl, .inl ⟨rfl, rfl⟩⟩, trivial⟩, hB0⟩ ?round ?done ?stop
  case hst =>
    intro W' hb
    have hbx : Boxed W' w.heap.size 22 (.slice none 0 0) := (hb.block w.heap.size (by simp)).trans bL
    have hc := hbx.cell
    have hno : ∀ k, OwnB w.heap.size W' k → k = w.heap.size := by
      rintro k (h | ⟨n, c, h⟩)
      · exact h
      · rw [hc] at h
        simp at h
    have hs := hb.size
    simp only [World.size_alloc] at hs
    exact ⟨by omega, fun q => by have := hno _ q; omega, fun k q => by have := hno k q; omega⟩
  case hkb => exact fun W l o o' hl h ho _ => KeepOwn.putObj o' h ho (by simp at hl; omega)
  case round =>
    rintro lo pre x W ⟨⟨v, hv, hrow, _⟩, hB⟩ hlt
    rw [zip1w]
    simp only [List.setIfInBounds_toArray, List.set_cons_zero, List.set_cons_succ]
    gi_wp2
    refine ⟨trivial, ?_⟩
    rintro W2 ⟨⟨v, hv, hrow, _⟩, hB⟩
    have hc := hv.cell
    gi_wp2_with (gi_at_builtin; refine wpListIn_append_at _ rfl _ _ 22 rfl w.heap.size 9 i0 (.string ⟨#[]⟩) 1 16 Try.underlying22 hi hz0 hz1 hz2 rfl (by decide) _ _ _ rfl (hrow.alloc _) ⟨W2.heap.size, 0, none⟩ 1 1 [.string x] rfl rfl (cell_one_new _ _ _) (by simp [Value.oneCell']) (by simp [maxLen]; omega) (by omega) (by have := hB.size; simp; omega) ?_; intro v' w1 hown' hgrow hat; obtain ⟨g', cap', rfl⟩ := ownsRow_succ hown'; obtain ⟨hv1, hv2, hr2, hk2, hb2⟩ := hv.appended (by decide) hrow hB.size (Nat.le_refl _) hown' hgrow; have hko := keepOwn_append hv hrow hgrow hat hv2; have hc1 := hv1.cell; have hf1 := hv1.frozen)
    refine ⟨hk2.from _, hko, ⟨⟨_, hv2, ?_, trivial⟩, hB.trans hb2⟩⟩
    simpa using hr2
  case done =>
    rintro D ys W hD rfl ⟨⟨v, hv, hrow, _⟩, hB⟩ hK
    have hc := hv.cell
    have hK2 := (World.putObj_heap_other (w := W) (r := D) (o := .deferred none) (k := w.heap.size) (by simp at hD; omega)).trans hv
    have hR2 : Kd.R Kd.string 9 (W.putObj D (.deferred none)) w.heap.size (fun _ => True) v ys := Kd.R_of_own (by
      have := ownsRow_putObj hrow (.deferred none) hK rfl
      exact this) (fun _ _ => trivial)
    gi_wp2
    refine ⟨by simp, .inl ⟨_, _, rfl, run_takeDeferred hK, ?_⟩⟩
    refine ⟨v, ?_, v, rfl, hR2, hB.trans (belowK_b (w := w) (Nat.le_refl _) _ D _ _ (by simp at hD; omega) hK rfl rfl)⟩
    simp [results, Try.results61, go_sem]
  case stop => exact fun _ _ _ _ _ h _ => h.elim

set_option maxHeartbeats 2000000 in
theorem wal_Collect_calls (w0 : World) (A0 : Option Addr) (c0 : Nat) (l0 : List ByteArray) (A1 : Option Addr) (c1 : Nat) (l1 : List S40) (hr0 : Kd.C Kd.string w0 A0 l0.length l0) (hc0 : l0.length ≤ c0) (hr1 : Kd.C k40 w0 A1 l1.length l1) (hc1 : l1.length ≤ c1)
    (fr ep : Int) (hck : checkB l0 l1 = true) (hf0 : 0 ≤ fr) (hf1 : fr < l0.length) (Bd Bf Be : Nat) (w : World) (hW : Below w0.heap.size w0 w)
    (hBd : w.heap[Bd]? = some (.cells #[.slice A0 l0.length c0, .slice A1 l1.length c1] 25 (0, 0))) (hBf : Boxed w Bf 3 (.int .i64 fr)) (hBe : Boxed w Be 3 (.int .i64 ep)) :
    Calls Try.prog 51 #[.func (.func 62) #[] #[.pointer (some ⟨Bd, 0, none⟩), .pointer (some ⟨Bf, 0, none⟩), .pointer (some ⟨Be, 0, none⟩)]] w
      fun e W' => ∃ v, e = .returned v ∧ Kd.R Kd.string 9 W' w.heap.size (fun _ => True) v (recsV ep 0 ((contV l0 l1).drop fr.toNat)) ∧ Below w.heap.size w W' := by
  have HC := Aside0.mk ((callsIn_wide (n := 9)).1 (wal_collect_in 9 (by omega) w0 A0 c0 l0 A1 c1 l1 hr0 hc0 hr1 hc1 fr ep hck hf0 hf1 Bd Bf Be w hW hBd hBf hBe))
  clear hr0 hr1 hck hf0 hf1 hW hBd hBf hBe
  go_enter Try.func51, Try.ntmps51
  go_wp2_with (go_at_call 61; (with_reducible refine HC.out.mono ?_); rintro e w1 ⟨v, rfl, hR, hb⟩; have HR := Aside0.mk hR; have HB := Aside0.mk hb; clear hR hb)
  go_ret
  exact ⟨_, rfl, HR.out, HB.out⟩
/-- The error of a disk, a block and an epoch. -/
def openE (l0 : List ByteArray) (l1 : List S40) (fr ep : Int) : Int := if checkB l0 l1 = false ∨ ep < 0 ∨ 1000000000 < ep then 1 else if fr < 0 ∨ (l0.length : Int) ≤ fr then 40 else 0
theorem open_e (k : Nat) (l0 : List ByteArray) (l1 : List S40) (fr ep : Int) : wal_open.f (k + 1) l0 l1 fr ep = some (openE l0 l1 fr ep) := by
  unfold wal_open.f openE
  simp only [disk_Check.f, Option.bind_some]
  have hj : ∀ b, wal_open.j0 (k + 1) fr b l0 l1 = some (if b = true then 1 else if fr < 0 ∨ (l0.length : Int) ≤ fr then 40 else 0) := by
    intro b
    simp only [wal_open.j0]
    cases b
    · simp only [Bool.false_eq_true, if_false]
      by_cases h1 : fr < 0
      · rw [if_pos h1, if_pos (.inl h1)]
      · rw [if_neg h1]
        by_cases h2 : (l0.length : Int) ≤ fr
        · rw [if_pos h2, if_pos (.inr h2)]
        · rw [if_neg (show ¬ fr ≥ (l0.length : Int) from h2), if_neg (fun q => q.elim h1 h2)]
    · simp
  by_cases hA : checkB l0 l1 = false ∨ ep < 0 ∨ 1000000000 < ep
  · rw [if_pos hA]
    rcases hA with h | h | h
    · rw [h, if_neg (by decide), hj, if_pos rfl]
    · by_cases hc : checkB l0 l1 = true
      · rw [if_pos hc, if_pos h, hj, if_pos rfl]
      · rw [if_neg hc, hj, if_pos rfl]
    · by_cases hc : checkB l0 l1 = true
      · rw [if_pos hc, if_neg (by omega), hj, decide_eq_true (show ep > 1000000000 from h), if_pos rfl]
      · rw [if_neg hc, hj, if_pos rfl]
  · rw [if_neg hA]
    have hc : checkB l0 l1 = true := by
      by_cases hc : checkB l0 l1 = true
      · exact hc
      · exact absurd (.inl (by simpa using hc)) hA
    have h1 : ¬ ep < 0 := fun q => hA (.inr (.inl q))
    have h2 : ¬ ep > 1000000000 := fun q => hA (.inr (.inr q))
    rw [if_pos hc, if_neg h1, hj, decide_eq_false h2, if_neg (by decide)]
theorem openE_ok {l0 : List ByteArray} {l1 : List S40} {fr ep : Int} (h : openE l0 l1 fr ep = 0) : checkB l0 l1 = true ∧ 0 ≤ fr ∧ fr < l0.length ∧ 0 ≤ ep ∧ ep ≤ 1000000000 := by
  unfold openE at h
  by_cases h1 : checkB l0 l1 = false ∨ ep < 0 ∨ 1000000000 < ep
  · rw [if_pos h1] at h; cases h
  · rw [if_neg h1] at h
    by_cases h2 : fr < 0 ∨ (l0.length : Int) ≤ fr
    · rw [if_pos h2] at h; cases h
    · refine ⟨by cases hc : checkB l0 l1; exact absurd (.inl hc) h1; rfl, by omega, by omega, ?_, ?_⟩
      · exact Classical.byContradiction fun q => h1 (.inr (.inl (by omega)))
      · exact Classical.byContradiction fun q => h1 (.inr (.inr (by omega)))
theorem rec_box1 (w : World) (o : Obj) (v : Value) (o2 : Obj) : Boxed (((w.alloc o).alloc (.cells #[v] 3)).alloc o2) (w.heap.size + 1) 3 v := by
  have h := Boxed.new (w.alloc o) 3 v
  rw [World.size_alloc] at h
  exact h.alloc _
theorem rec_box2 (w : World) (o o2 : Obj) (v : Value) : Boxed (((w.alloc o).alloc o2).alloc (.cells #[v] 3)) (w.heap.size + 1 + 1) 3 v := by
  have h := Boxed.new ((w.alloc o).alloc o2) 3 v
  rw [World.size_alloc, World.size_alloc] at h
  exact h
/-- What wal.Open answers. -/
def openV (l0 : List ByteArray) (l1 : List S40) (fr ep : Int) : List ByteArray × Int := if openE l0 l1 fr ep = 0 then (recsV ep 0 ((contV l0 l1).drop fr.toNat), 0) else ([], openE l0 l1 fr ep)
def wal_Open.f (l0 : List ByteArray) (l1 : List S40) (fr ep : Int) : Option (List ByteArray × Int) := some (openV l0 l1 fr ep)

set_option maxRecDepth 100000 in
set_option maxHeartbeats 4000000 in
theorem wal_Open.calls (A0_0 : Option Addr) (c0_0 : Nat) (l0_0 : List ByteArray) (A0_1 : Option Addr) (c0_1 : Nat) (l0_1 : List S40) (a1 : Int) (a2 : Int) (r1 : List ByteArray) (r2 : Int) (w : World) (hr0_0 : Kd.C Kd.string w A0_0 l0_0.length l0_0) (hc0_0 : l0_0.length ≤ c0_0) (hr0_1 : Kd.C k40 w A0_1 l0_1.length l0_1) (hc0_1 : l0_1.length ≤ c0_1) (h : wal_Open.f l0_0 l0_1 a1 a2 = some (r1, r2)) :
    Calls Try.prog 29 #[.agg #[.slice A0_0 l0_0.length c0_0, .slice A0_1 l0_1.length c0_1], .int .i64 a1, .int .i64 a2] w fun e w' => ∃ v0_ : Value, e = .returned (.tuple #[v0_, .int .i64 r2]) ∧ Kd.R Kd.string 9 w' w.heap.size (fun _ => True) v0_ r1 ∧ Below w.heap.size w w' := by
  have hv : openV l0_0 l0_1 a1 a2 = (r1, r2) := by simpa [wal_Open.f] using h
  clear h
  have HB0 := Aside0.mk ((Below.refl w.heap.size w).alloc (Nat.le_refl _) (.cells #[.slice A0_0 l0_0.length c0_0, .slice A0_1 l0_1.length c0_1] 25))
  have HD0 := Aside0.mk (blk_new w (.cells #[.slice A0_0 l0_0.length c0_0, .slice A0_1 l0_1.length c0_1] 25))
  have HOP := Aside0.mk (wal_open.calls 1 A0_0 c0_0 l0_0 A0_1 c0_1 l0_1 a1 a2 (openE l0_0 l0_1 a1 a2) (w.alloc (.cells #[.slice A0_0 l0_0.length c0_0, .slice A0_1 l0_1.length c0_1] 25)) (Kd.C_below hr0_0 HB0.out) hc0_0 (Kd.C_below hr0_1 HB0.out) hc0_1 (open_e 0 _ _ _ _))
  obtain ⟨er, her⟩ : ∃ er, er = openE l0_0 l0_1 a1 a2 := ⟨_, rfl⟩
  unfold openV at hv
  rw [← her] at HOP hv
  have ARM := True.intro
  by_cases he : er = 0
  rotate_left
  · rw [if_neg he] at hv
    simp only [Prod.mk.injEq] at hv
    obtain ⟨h1, h2⟩ := hv
    subst h1
    subst h2
    have hne : (er != 0) = true := by rw [bne_iff_ne]; exact he
    clear he her hr0_0 hr0_1
    go_enter Try.func29, Try.ntmps29
    go_wp2_with (go_at_call 50; (with_reducible refine HOP.out.mono ?_); rintro e w1 ⟨rfl, hb⟩; have HB1 := Aside0.mk (HB0.out.trans (hb.mono (by simp))); have HD1 := Aside0.mk (blk_below HD0.out hb); clear hb; have d0 := blk_cell HD1.out 0; have d1 := blk_cell HD1.out 1; simp only [List.getElem?_toArray, List.getElem?_cons_zero, List.getElem?_cons_succ] at d0 d1)
    go_ret2
    exact ⟨_, rfl, Kd.R_nil _ _ _ _ _, HB1.out⟩
  · rw [if_pos he] at hv
    simp only [Prod.mk.injEq] at hv
    obtain ⟨h1, h2⟩ := hv
    subst h1
    subst h2
    subst he
    obtain ⟨hck, hf0, hf1, _, _⟩ := openE_ok her.symm
    have HRC := Aside0.mk (fun W => (callsIn_wide (n := 3)).1 (wal_records_in 3 A0_0 l0_0.length c0_0 A0_1 l0_1.length c0_1 a1 a2 W))
    have HCO := Aside0.mk (fun (W : World) (Bd Bf Be : Nat) (hW : Below w.heap.size w W) hBd hBf hBe => wal_Collect_calls w A0_0 c0_0 l0_0 A0_1 c0_1 l0_1 hr0_0 hc0_0 hr0_1 hc0_1 a1 a2 hck hf0 hf1 Bd Bf Be W hW hBd hBf hBe)
    clear her hr0_0 hr0_1 hck hf0 hf1
    go_enter Try.func29, Try.ntmps29
    go_wp2_with (first | (go_at_call 50; (with_reducible refine HOP.out.mono ?_); rintro e w1 ⟨rfl, hb⟩; have HB1 := Aside0.mk (HB0.out.trans (hb.mono (by simp))); have HD1 := Aside0.mk (blk_below HD0.out hb); clear hb; have d0 := blk_cell HD1.out 0; have d1 := blk_cell HD1.out 1; simp only [List.getElem?_toArray, List.getElem?_cons_zero, List.getElem?_cons_succ] at d0 d1) | (go_at_call 52; (with_reducible refine (HRC.out _).mono ?_); rintro e w2 ⟨rfl, hw2⟩; have HB2 := Aside0.mk (show Below w.heap.size w w2 by rw [hw2]; exact ((HB1.out.alloc HB1.out.size _).alloc (by have := HB1.out.size; simp; omega) _).alloc (by have := HB1.out.size; simp; omega) _); have HBD := Aside0.mk (show w2.heap[w1.heap.size]? = some (.cells #[.slice A0_0 l0_0.length c0_0, .slice A0_1 l0_1.length c0_1] 25 (0, 0)) by rw [hw2]; exact blk_alloc (blk_alloc (blk_new w1 _) _) _); have HBF := Aside0.mk (show Boxed w2 (w1.heap.size + 1) 3 (.int .i64 a1) by rw [hw2]; exact rec_box1 w1 _ _ _); have HBE := Aside0.mk (show Boxed w2 (w1.heap.size + 1 + 1) 3 (.int .i64 a2) by rw [hw2]; exact rec_box2 w1 _ _ _); clear hw2 d0 d1) | (go_at_call 51; (with_reducible refine (HCO.out _ _ _ _ HB2.out HBD.out HBF.out HBE.out).mono ?_); rintro e w3 ⟨v3, rfl, hR3, hb⟩; have HR3 := Aside0.mk hR3; have HB3 := Aside0.mk (HB2.out.trans (hb.mono HB2.out.size)); clear hb hR3))
    go_ret2
    exact ⟨_, rfl, Kd.R_lower HR3.out HB2.out.size, HB3.out⟩
end Go.Proofs.Ytoibofhmlokglaa.P
-- Written by a program of this session (xprint.py) over the kit's print.py.
namespace Go.Proofs.Ytoibofhmlokglaa.P
open Go.RowKit Go.Proofs.YtoibofhmlokglaaW.PrintWords Go.Proofs.YtoibofhmlokglaaW.PrintLast Go.Proofs.YtoibofhmlokglaaW.PrintMore
attribute [local go_sem] max2_int min2_int max_two min_two max_three min_three max_four min_four   -- for this text's walks alone
set_option linter.unusedVariables false
set_option linter.unusedSimpArgs false

/-! ### wal_mark_put: function 55 -/
def wal_mark_put.f (a0_0 : Int) (a0_1 : Int) (a1 : ByteArray) : Option (ByteArray) := (codec_Number.f a0_0).bind fun bt376 => ((codec_Number.f a0_1).bind fun bt378 => (if bt376.1.size + bt378.1.size ≤ 9223372036854775807 then (if (bt376.1 ++ bt378.1).size + a1.size ≤ 9223372036854775807 then ((crc_Put.f ((bt376.1 ++ bt378.1) ++ a1)).bind fun bt380 => (some bt380.1)) else (none)) else (none)))
set_option maxHeartbeats 8000000 in
set_option maxRecDepth 100000 in
theorem wal_mark_put.calls (a0_0 : Int) (a0_1 : Int) (a1 : ByteArray) (r : ByteArray) (w : World) (h : wal_mark_put.f a0_0 a0_1 a1 = some r) :
    Calls Try.prog 55 #[.agg #[.int .i64 a0_0, .int .i64 a0_1], .string a1] w fun e w' => e = .returned (.string r) ∧ Below w.heap.size w w' := by
  have hu75 := Try.underlying75
  have HB := Aside0.mk (Below.refl w.heap.size w)
  have H : ((codec_Number.f a0_0).bind fun bt376 => ((codec_Number.f a0_1).bind fun bt378 => (if bt376.1.size + bt378.1.size ≤ 9223372036854775807 then (if (bt376.1 ++ bt378.1).size + a1.size ≤ 9223372036854775807 then ((crc_Put.f ((bt376.1 ++ bt378.1) ++ a1)).bind fun bt380 => (some bt380.1)) else (none)) else (none)))) = some r := h
  clear h
  replace H := Option.bind_eq_some_iff.mp H
  obtain ⟨⟨t376, t377⟩, A30, H⟩ := H
  replace H : ((codec_Number.f a0_1).bind fun bt378 => (if t376.size + bt378.1.size ≤ 9223372036854775807 then (if (t376 ++ bt378.1).size + a1.size ≤ 9223372036854775807 then ((crc_Put.f ((t376 ++ bt378.1) ++ a1)).bind fun bt380 => (some bt380.1)) else (none)) else (none))) = some r := H
  have A3 := Aside0.mk A30
  clear A30
  replace H := Option.bind_eq_some_iff.mp H
  obtain ⟨⟨t378, t379⟩, A40, H⟩ := H
  replace H : (if t376.size + t378.size ≤ 9223372036854775807 then (if (t376 ++ t378).size + a1.size ≤ 9223372036854775807 then ((crc_Put.f ((t376 ++ t378) ++ a1)).bind fun bt380 => (some bt380.1)) else (none)) else (none)) = some r := H
  have A4 := Aside0.mk A40
  clear A40
  by_cases c5 : t376.size + t378.size ≤ 9223372036854775807
  · rw [if_pos c5] at H
    have c5b0 := eq_true c5
    have c5b1 : decide (t376.size + t378.size ≤ 9223372036854775807) = true := decide_eq_true c5
    try have c5b2 : (9223372036854775807 < t376.size + t378.size) = False := eq_false (Nat.not_lt.2 c5)
    by_cases c6 : (t376 ++ t378).size + a1.size ≤ 9223372036854775807
    · rw [if_pos c6] at H
      have c6b0 := eq_true c6
      have c6b1 : decide ((t376 ++ t378).size + a1.size ≤ 9223372036854775807) = true := decide_eq_true c6
      try have c6b2 : (9223372036854775807 < (t376 ++ t378).size + a1.size) = False := eq_false (Nat.not_lt.2 c6)
      replace H := Option.bind_eq_some_iff.mp H
      obtain ⟨⟨t380, t381⟩, A70, H⟩ := H
      replace H : (some t380) = some r := H
      have A7 := Aside0.mk A70
      clear A70
      obtain rfl := Option.some.inj H
      go_enter Try.func55, Try.ntmps55
      go_wp2_with (first | ((with_reducible refine gate_dst (N := 2) rfl ?_); refine box_event ?hg (N := 2) ?hd (cs := #[.int .i64 a0_0, .int .i64 a0_1]) (t := 75) ?hr ?_; (case hd => rfl); (case hg => rfl); (case hr => first | (go_simp; done) | (go_simp; rfl)); intro gb375 hg w8 hbox hb; have n0_ := Aside0.mk (below_step (by repeat (first | (with_reducible first | exact HB.out | apply below_alloc | apply pw_below_drewN | apply below_drew1) | exact HB.out)) hb); have n1_ := Aside0.mk (hbox); have n2_ := Aside0.mk ((by rw [hg]; exact (below_size (by repeat (first | (with_reducible first | exact HB.out | apply below_alloc | apply pw_below_drewN | apply below_drew1) | exact HB.out))) : w.heap.size ≤ gb375)); have n3_ := Aside0.mk ((by rw [hg]; exact (below_size (by repeat (first | (with_reducible first | exact HB.out | apply below_alloc | apply pw_below_drewN | apply below_drew1) | exact HB.out))) : w.heap.size ≤ gb375)); clear HB; have HB := n0_; have BK375 := n1_; have GW375 := n2_; have GE375 := n3_; clear n0_ n1_ n2_ n3_; clear hb hbox hg; have hcz9_0 : w8.cell? ⟨gb375, 0, none⟩ = some (.int .i64 a0_0) := (blk_cell BK375.out 0).trans rfl; have hcz9_1 : w8.cell? ⟨gb375, 1, none⟩ = some (.int .i64 a0_1) := (blk_cell BK375.out 1).trans rfl; have hfz9_0 := blk_frozen BK375.out 0; have hfz9_1 := blk_frozen BK375.out 1) | ((with_reducible refine gate_callee (f := 66) rfl ?_); refine goesL_ (some 14) rfl rfl Try.func66 (by kernel_rfl) rfl #[.int .i64 a0_0] rfl (by (try simp only [List.map_toArray, List.map_cons, List.map_nil]); first | done | rfl | (simp only [List.length_drop, List.length_take]; rfl)) ?_; (with_reducible refine (codec_Number.calls a0_0 t376 t377 _ A3.out).mono ?_); rintro e w10 ⟨rfl, hb⟩; refine ⟨_, rfl, ?_⟩; have n0_ := Aside0.mk (blk_below (g := gb375) (o := .cells #[.int .i64 a0_0, .int .i64 a0_1] 75 (0, 0)) (by (with_reducible repeat (first | refine blk_drewN ?_ _ | refine blk_drew ?_ | refine blk_alloc ?_ _)); exact BK375.out) hb); have n1_ := Aside0.mk (below_step (by repeat (first | (with_reducible first | exact HB.out | apply below_alloc | apply pw_below_drewN | apply below_drew1 | refine below_set ?_ GE375.out) | exact HB.out)) hb); clear BK375; clear HB; have BK375 := n0_; have HB := n1_; clear n0_ n1_; (try clear hb); (try clear hb2); (try clear hk); (try clear hi); have hcz11_0 : w10.cell? ⟨gb375, 0, none⟩ = some (.int .i64 a0_0) := (blk_cell BK375.out 0).trans rfl; have hcz11_1 : w10.cell? ⟨gb375, 1, none⟩ = some (.int .i64 a0_1) := (blk_cell BK375.out 1).trans rfl; have hfz11_0 := blk_frozen BK375.out 0; have hfz11_1 := blk_frozen BK375.out 1) | ((with_reducible refine gate_callee (f := 66) rfl ?_); refine goesL_ (some 20) rfl rfl Try.func66 (by kernel_rfl) rfl #[.int .i64 a0_1] rfl (by (try simp only [List.map_toArray, List.map_cons, List.map_nil]); first | done | rfl | (simp only [List.length_drop, List.length_take]; rfl)) ?_; (with_reducible refine (codec_Number.calls a0_1 t378 t379 _ A4.out).mono ?_); rintro e w12 ⟨rfl, hb⟩; refine ⟨_, rfl, ?_⟩; have n0_ := Aside0.mk (blk_below (g := gb375) (o := .cells #[.int .i64 a0_0, .int .i64 a0_1] 75 (0, 0)) (by (with_reducible repeat (first | refine blk_drewN ?_ _ | refine blk_drew ?_ | refine blk_alloc ?_ _)); exact BK375.out) hb); have n1_ := Aside0.mk (below_step (by repeat (first | (with_reducible first | exact HB.out | apply below_alloc | apply pw_below_drewN | apply below_drew1 | refine below_set ?_ GE375.out) | exact HB.out)) hb); clear BK375; clear HB; have BK375 := n0_; have HB := n1_; clear n0_ n1_; (try clear hb); (try clear hb2); (try clear hk); (try clear hi)) | ((with_reducible refine gate_callee (f := 67) rfl ?_); refine goesL_ (some 29) rfl rfl Try.func67 (by kernel_rfl) rfl #[.string ((t376 ++ t378) ++ a1)] rfl (by (try simp only [List.map_toArray, List.map_cons, List.map_nil]); first | done | rfl | (simp only [List.length_drop, List.length_take]; rfl)) ?_; (with_reducible refine (crc_Put.calls ((t376 ++ t378) ++ a1) t380 t381 _ A7.out).mono ?_); rintro e w13 ⟨rfl, hb⟩; refine ⟨_, rfl, ?_⟩; have n0_ := Aside0.mk (blk_below (g := gb375) (o := .cells #[.int .i64 a0_0, .int .i64 a0_1] 75 (0, 0)) (by (with_reducible repeat (first | refine blk_drewN ?_ _ | refine blk_drew ?_ | refine blk_alloc ?_ _)); exact BK375.out) hb); have n1_ := Aside0.mk (below_step (by repeat (first | (with_reducible first | exact HB.out | apply below_alloc | apply pw_below_drewN | apply below_drew1 | refine below_set ?_ GE375.out) | exact HB.out)) hb); clear BK375; clear HB; have BK375 := n0_; have HB := n1_; clear n0_ n1_; (try clear hb); (try clear hb2); (try clear hk); (try clear hi)))
      go_ret
      exact ⟨by first | rfl | (simp [errW_none, errW_some] <;> rfl) | (simp [*, errW_none, errW_some] <;> rfl), by repeat (first | (with_reducible first | exact HB.out | apply below_alloc | apply pw_below_drewN | apply below_drew1 | refine below_set ?_ GE375.out) | exact HB.out)⟩
    · rw [if_neg c6] at H
      exact absurd H (by simp)
  · rw [if_neg c5] at H
    exact absurd H (by simp)

end Go.Proofs.Ytoibofhmlokglaa.P
