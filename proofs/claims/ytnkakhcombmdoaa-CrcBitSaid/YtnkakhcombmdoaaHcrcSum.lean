/-
  crc.made, the table's step, crc.Step and crc.Sum, by hand.
-/
import Derived.Maps.AppendAt
import Derived.OwnWalk
import Derived.LoopTactic
import Derived.RangeFuncBox
import Derived.Test.YtnkakhcombmdoaaWMore
import Derived.Test.YtnkakhcombmdoaaHBuilder
import Derived.Test.YtnkakhcombmdoaaPx0
namespace Go.Proofs.Ytnkakhcombmdoaa.P
open Go.RowKit Go.Shelf Go.Proofs.YtnkakhcombmdoaaW.PrintWords Go.Proofs.YtnkakhcombmdoaaW.PrintLast Go.Proofs.YtnkakhcombmdoaaW.PrintMore

def crc1 (c : Int) : Int := if (bits BinOp.and IntKind.i64 c 1 == 1) = true then bits BinOp.xor IntKind.i64 (c / 2) 3988292384 else c / 2
def crcN : Nat → Int → Int
  | 0, c => c
  | n + 1, c => crc1 (crcN n c)
def crcT (i : Nat) : Int := crcN 8 (i : Int)

def zeros : Array Value := Array.replicate 256 (.int .i64 0)
theorem zeros_size : zeros.size = 256 := by simp [zeros]
theorem zero_tab (w : World) : Sem.run Try.prog (zeroValue 77) w = .ok (.agg zeros) w := by kernel_rfl
attribute [local go_sem] zero_tab

set_option maxHeartbeats 8000000 in
set_option maxRecDepth 100000 in
theorem crc_made_calls (w : World) : Calls Try.prog 44 #[] w fun e w' => ∃ cs, e = .returned (.pointer (some ⟨w.heap.size, 0, none⟩)) ∧ w'.heap[w.heap.size]? = some (.cells cs 77 (0, 0)) ∧ (∀ j : Nat, j < 256 → cs[j]? = some (.int .i64 (crcT j))) ∧ Below w.heap.size w w' := by
  go_enter Try.func44, Try.ntmps44
  go_wp2
  go_loopw [5] (fun i wr => ∃ (k : Nat) (cs : Array Value), k ≤ 256 ∧ i = .int .i64 k ∧ cs.size = 256 ∧ Aside0 (wr.heap[w.heap.size]? = some (.cells cs 77 (0, 0))) ∧ Aside0 (∀ j : Nat, j < k → cs[j]? = some (.int .i64 (crcT j))) ∧ Aside0 (Below w.heap.size w wr))
    (fun i _ => 256 - (intOf i).toNat)
  case atStart => exact ⟨0, zeros, by omega, rfl, zeros_size, ⟨blk_new _ _⟩, ⟨fun j hj => by omega⟩, ⟨(Below.refl _ _).alloc (Nat.le_refl _) _⟩⟩
  case round =>
    obtain ⟨k, cs, hk, rfl, hcs, HW, HT, HB⟩ := hrel
    by_cases hlt : k < 256
    · go_wp2
      go_loopw [9, 3] (fun i c wr2 => ∃ n : Nat, n ≤ 8 ∧ i = .int .i64 n ∧ c = .int .i64 (crcN n (k : Int)) ∧ Aside0 (wr2 = wr))
        (fun i _ _ => 8 - (intOf i).toNat)
      case atStart => exact ⟨0, by omega, rfl, rfl, ⟨rfl⟩⟩
      case round =>
        obtain ⟨n, hn, rfl, rfl, HE⟩ := hrel
        obtain rfl := HE.out
        by_cases h8 : n < 8
        · have HS := Aside0.mk (show crcN (n + 1) (k : Int) = crc1 (crcN n (k : Int)) from rfl)
          generalize crcN n (k : Int) = c at *
          unfold crc1 at HS
          by_cases h1 : (bits BinOp.and IntKind.i64 c 1 == 1) = true
          · rw [if_pos h1] at HS
            go_wp2
            exact ⟨⟨n + 1, by omega, by go_num, by rw [HS.out], ⟨trivial⟩⟩, by simp [intOf]; omega⟩
          · rw [if_neg h1] at HS
            have h2 : (bits BinOp.and IntKind.i64 c 1 == 1) = false := by simpa using h1
            clear h1
            go_wp2
            exact ⟨⟨n + 1, by omega, by go_num, by rw [HS.out], ⟨trivial⟩⟩, by simp [intOf]; omega⟩
        · obtain rfl : n = 8 := by omega
          have c0 := blk_cell HW.out k
          rw [Array.getElem?_eq_getElem (by omega)] at c0
          have f0 := blk_frozen HW.out k
          have hset := Aside0.mk (blk_set HW.out k (.int .i64 (crcN 8 (k : Int))))
          have hb := Aside0.mk (HB.out.setCell (p := ⟨w.heap.size, k, none⟩) (Nat.le_refl _) (.int .i64 (crcN 8 (k : Int))))
          generalize cs[k] = old at c0
          go_wp2
          refine ⟨⟨k + 1, _, by omega, by go_num, by simpa using hcs, hset, ⟨fun j hj => ?_⟩, hb⟩, by simp [intOf]; omega⟩
          rw [Array.getElem?_setIfInBounds]
          by_cases e : k = j
          · subst e; rw [if_pos rfl, if_pos (by omega)]; rfl
          · rw [if_neg e]; exact HT.out j (by omega)
    · obtain rfl : k = 256 := by omega
      go_wp2
      go_ret
      exact ⟨cs, rfl, HW.out, HT.out, HB.out⟩

def stepI (c b : Int) : Int := bits BinOp.and IntKind.i64 (bits BinOp.xor IntKind.i64 c b) 255
def stepV (c b : Int) : Int := bits BinOp.xor IntKind.i64 (c / 256) (crcT (stepI c b).toNat)
theorem and255 (x : Int) : 0 ≤ bits BinOp.and IntKind.i64 x 255 ∧ bits BinOp.and IntKind.i64 x 255 < 256 := by
  have hn : (BitVec.ofInt 64 x &&& BitVec.ofInt 64 255).toNat ≤ 255 := by
    rw [BitVec.toNat_and]
    exact Nat.le_trans Nat.and_le_right (by decide)
  show 0 ≤ IntKind.wrap .i64 (((BitVec.ofInt 64 x &&& BitVec.ofInt 64 255).toNat : Nat) : Int) ∧ IntKind.wrap .i64 (((BitVec.ofInt 64 x &&& BitVec.ofInt 64 255).toNat : Nat) : Int) < 256
  generalize (BitVec.ofInt 64 x &&& BitVec.ofInt 64 255).toNat = n at *
  have : IntKind.wrap .i64 (n : Int) = n := by
    simp [IntKind.wrap, IntKind.signed, IntKind.bits]
    omega
  omega

set_option maxHeartbeats 4000000 in
set_option maxRecDepth 100000 in
theorem crc_tstep_calls (B : Nat) (cs : Array Value) (c : Int) (b : Nat) (hb : b < 256) (w : World) (hw : w.heap[B]? = some (.cells cs 77 (0, 0))) (ht : ∀ j : Nat, j < 256 → cs[j]? = some (.int .i64 (crcT j))) :
    Calls Try.prog 45 #[.pointer (some ⟨B, 0, none⟩), .int .i64 c, .int .u8 (b : Int)] w fun e w' => e = .returned (.int .i64 (stepV c b)) ∧ w' = w := by
  obtain ⟨h0, h1⟩ := and255 (bits BinOp.xor IntKind.i64 c b)
  have hc : w.cell? ⟨B, (bits BinOp.and IntKind.i64 (bits BinOp.xor IntKind.i64 c b) 255).toNat, none⟩ = some (.int .i64 (crcT (stepI c b).toNat)) := by
    rw [blk_cell hw]; exact ht _ (by omega)
  have hS := Aside0.mk (show stepV c b = bits BinOp.xor IntKind.i64 (c / 256) (crcT (stepI c b).toNat) from rfl)
  generalize crcT (stepI c b).toNat = v at *
  clear ht hw
  go_enter Try.func45, Try.ntmps45
  go_wp2
  go_ret
  exact ⟨by rw [hS.out]; rfl, rfl⟩

/-- What crc.Step answers at a byte. -/
def crc_Step.f (a0 a1 : Int) : Option (Int × Bool) := if 0 ≤ a1 ∧ a1 < 256 then some (if 0 ≤ a0 ∧ a0 ≤ 4294967295 then (stepV a0 a1, true) else (0, false)) else none
set_option maxHeartbeats 4000000 in
set_option maxRecDepth 100000 in
theorem crc_Step_yes (a0 : Int) (b : Nat) (hb : b < 256) (w : World) (h0 : 0 ≤ a0) (h1 : a0 ≤ 4294967295) : Calls Try.prog 25 #[.int .i64 a0, .int .u8 (b : Int)] w fun e w' => e = .returned (.tuple #[.int .i64 (stepV a0 b), .bool true]) ∧ Below w.heap.size w w' := by
  have HM := Aside0.mk (crc_made_calls w)
  go_enter Try.func25, Try.ntmps25
  go_wp2_with (first | (go_at_call 44; refine HM.out.mono ?_; rintro e w3 ⟨cs, rfl, hw3, ht3, hb3⟩; have HW3 := Aside0.mk hw3; have HT3 := Aside0.mk ht3; have HB3 := Aside0.mk hb3; clear hw3 ht3 hb3) | (go_at_call 45; refine (crc_tstep_calls w.heap.size cs a0 b hb _ HW3.out HT3.out).mono ?_; rintro e w4 ⟨rfl, rfl⟩))
  go_ret2
  exact ⟨rfl, HB3.out⟩
set_option maxHeartbeats 4000000 in
theorem crc_Step_no (a0 : Int) (b : Nat) (w : World) (h : ¬ (0 ≤ a0 ∧ a0 ≤ 4294967295)) : Calls Try.prog 25 #[.int .i64 a0, .int .u8 (b : Int)] w fun e w' => e = .returned (.tuple #[.int .i64 0, .bool false]) ∧ Below w.heap.size w w' := by
  by_cases h0 : a0 < 0
  · clear h
    go_enter Try.func25, Try.ntmps25
    go_wp2
    go_ret2
    exact ⟨rfl, Below.refl _ _⟩
  · have h1 : a0 > 4294967295 := by omega
    clear h
    go_enter Try.func25, Try.ntmps25
    go_wp2
    go_ret2
    exact ⟨rfl, Below.refl _ _⟩
theorem crc_Step.calls (a0 : Int) (a1 : Int) (r1 : Int) (r2 : Bool) (w : World) (h : crc_Step.f a0 a1 = some (r1, r2)) :
    Calls Try.prog 25 #[.int .i64 a0, .int .u8 a1] w fun e w' => e = .returned (.tuple #[.int .i64 r1, .bool r2]) ∧ Below w.heap.size w w' := by
  unfold crc_Step.f at h
  by_cases hb : 0 ≤ a1 ∧ a1 < 256
  · rw [if_pos hb] at h
    obtain ⟨b, rfl⟩ : ∃ b : Nat, a1 = b := ⟨a1.toNat, by omega⟩
    by_cases hc : 0 ≤ a0 ∧ a0 ≤ 4294967295
    · rw [if_pos hc] at h
      simp only [Option.some.injEq, Prod.mk.injEq] at h
      obtain ⟨rfl, rfl⟩ := h
      exact crc_Step_yes a0 b (by omega) w hc.1 hc.2
    · rw [if_neg hc] at h
      simp only [Option.some.injEq, Prod.mk.injEq] at h
      obtain ⟨rfl, rfl⟩ := h
      exact crc_Step_no a0 b w hc
  · rw [if_neg hb] at h; cases h

def sumC (l : List UInt8) (c : Int) : Int := l.foldl (fun c b => stepV c (b.toNat : Int)) c
/-- The sum of a text. -/
def sumV (s : ByteArray) : Int := bits BinOp.xor IntKind.i64 (sumC s.data.toList 4294967295) 4294967295
theorem sumC_snoc (l : List UInt8) (b : UInt8) (c : Int) : sumC (l ++ [b]) c = stepV (sumC l c) (b.toNat : Int) := by simp [sumC]
theorem sumC_take (s : ByteArray) (k : Nat) (h : k < s.size) (c : Int) : sumC (s.data.toList.take (k + 1)) c = stepV (sumC (s.data.toList.take k) c) (s[k].toNat : Int) := by
  have hl : k < s.data.toList.length := by simpa using h
  rw [List.take_succ_eq_append_getElem hl, sumC_snoc]
  rfl

set_option maxHeartbeats 4000000 in
set_option maxRecDepth 100000 in
theorem crc_Sum_yes (s : ByteArray) (hs : s.size ≤ 1000000000) (w : World) : Calls Try.prog 24 #[.string s] w fun e w' => e = .returned (.int .i64 (sumV s)) ∧ Below w.heap.size w w' := by
  have HM := Aside0.mk (crc_made_calls w)
  have eg : ∀ args w, (callFunc 45 args).run Try.prog w = .ok (.enter 45 args) w := enters_of Try.func45 (by kernel_rfl) rfl
  go_enter Try.func24, Try.ntmps24
  go_wp2_with (first | (go_at_call 44; refine HM.out.mono ?_; rintro e w3 ⟨cs, rfl, hw3, ht3, hb3⟩; have HW3 := Aside0.mk hw3; have HT3 := Aside0.mk ht3; have HB3 := Aside0.mk hb3; clear hw3 ht3 hb3))
  go_loopw [4, 5, 10] (fun c _ i wr => ∃ k : Nat, k ≤ s.size ∧ i = .int .i64 k ∧ c = .int .i64 (sumC (s.data.toList.take k) 4294967295) ∧ Aside0 (wr = w3)) (fun _ _ i _ => s.size - (intOf i).toNat)
  case atStart => exact ⟨0, Nat.zero_le _, rfl, rfl, ⟨rfl⟩⟩
  case round =>
    obtain ⟨k, hk, rfl, rfl, HE⟩ := hrel
    obtain rfl := HE.out
    by_cases hlt : k < s.size
    · have hn := Aside0.mk (sumC_take s k hlt 4294967295)
      have hb := s[k].toNat_lt
      have HC := Aside0.mk (crc_tstep_calls w.heap.size cs (sumC (s.data.toList.take k) 4294967295) s[k].toNat hb _ HW3.out HT3.out)
      generalize sumC (s.data.toList.take k) 4294967295 = c at *
      go_wp2_with (go_at_fn 45; refine HC.out.mono ?_; rintro e w4 ⟨rfl, rfl⟩)
      go_roundw
      case rel => exact ⟨k + 1, by omega, by go_num, by rw [hn.out], ⟨trivial⟩⟩
      case measure => simp [intOf]; omega
    · obtain rfl : k = s.size := by omega
      have hw := Aside0.mk (show sumC (s.data.toList.take s.size) 4294967295 = sumC s.data.toList 4294967295 by rw [List.take_of_length_le (by simp)])
      go_wp2
      go_ret
      exact ⟨by rw [hw.out]; rfl, HB3.out⟩
def crc_Sum.f (a0 : ByteArray) : Option Int := if a0.size ≤ 1000000000 then some (sumV a0) else none
theorem crc_Sum.calls (a0 : ByteArray) (r : Int) (w : World) (h : crc_Sum.f a0 = some r) : Calls Try.prog 24 #[.string a0] w fun e w' => e = .returned (.int .i64 r) ∧ Below w.heap.size w w' := by
  unfold crc_Sum.f at h
  by_cases hs : a0.size ≤ 1000000000
  · rw [if_pos hs] at h
    obtain rfl := Option.some.inj h
    exact crc_Sum_yes a0 hs w
  · rw [if_neg hs] at h; cases h
end Go.Proofs.Ytnkakhcombmdoaa.P
